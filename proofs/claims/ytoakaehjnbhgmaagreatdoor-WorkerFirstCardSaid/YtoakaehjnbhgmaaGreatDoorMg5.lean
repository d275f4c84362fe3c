/-
  Part of the proof of a statement about the given program: an abstract machine over its code, the simulation, its functions' equations, what they compute.
-/
import Derived.Test.YtoakaehjnbhgmaaGreatDoorMg4
set_option linter.unusedVariables false
set_option linter.unusedSimpArgs false
set_option linter.unusedSectionVars false
set_option maxRecDepth 100000
noncomputable section
namespace Go.Proofs.YtoakaehjnbhgmaaGreatDoor
section
open Go AM
theorem Xp (t0 t1 t2 t3:V):Cl 7 [t0,t1,t2,t3] []=
 if((CG 23) (V.weak t0)&&V.under 0 (V.weak t0))=true then if((CG 25) t1&&V.under 1 t1)=true then jn (fun a1=>
 V.ite a1
  ((Cl 10 (AA [(V.weak t0),t1] []) []).bind fun a2=>AV 0 [(V.weak t0),t1] a2.1)
  ((DZ [(V.weak t0),t1] 24 (V.ref 0 [] 24)).bind fun a3=>(Cl 12 (AA [(V.weak t0),t1] [a3]) []).bind fun a4=>(AZ [(V.weak t0),t1] 26 (V.ref 1 [] 26)).bind fun a5=>(Cl 11 (AY [a4.1,a5,t2,t3]) [(V.weak t0),t1]).bind fun a6=>(ext a6.1 0).bind fun a7=>(ext a6.1 1).bind fun a8=>(DZ a6.2 24 (V.ref 0 [] 24)).bind fun a9=>(Cl 12 (AA a6.2 [a9]) []).bind fun a10=>(AZ a6.2 26 (V.ref 1 [] 26)).bind fun a11=>(Cl 30 (AA a6.2 [a10.1,a11]) []).bind fun a12=>(ND a12.1 0).bind fun a13=>(ext a12.1 1).bind fun a14=>jn (fun a15=>
 V.ite a15
  (AV 0 a6.2 (V.bool false))
  ((Cl 27 (AY [a7]) a6.2).bind fun a16=>(Cl 18 (AY [a7,(V.int .i64 0)]) a16.2).bind fun a17=>(ND a17.1 0).bind fun a18=>(ext a17.1 1).bind fun a19=>(FT (CG 50) 51 (a17.2++[(V.agg 50 [(V.int .i64 0),(V.str []),(V.str []),(V.lst 66 .nil []),(V.lst 66 .nil [])])]) (V.ref (List.length a17.2) [] 51) a18).bind fun a20=>jn (fun a21 a22=>
 AV 0 a22 a21) (fun(a23:V→List V→Rv)=>(Cl 31 (AA a20 [a13,t2,t3]) []).bind fun a24=>(Cl 26 (AA a20 [(V.weak a16.1),a24.1]) []).bind fun a25=>V.ite a25.1 ((Cl 28 (AY [a7]) a20).bind fun a26=>(Cl 29 (AA a26.2 [a16.1]) []).bind fun a27=>(Xn (CG 65) .eql a26.1 a27.1).bind fun a28=>V.ite a28 ((Cl 25 (AY [a7]) a26.2).bind fun a29=>(AL .eql a29.1 (V.int .i64 0)).bind fun a30=>V.ite a30 ((AL .eql a19 (V.int .i64 30)).bind fun a31=>a23 a31 a29.2) (a23 (V.bool false) a29.2)) (a23 (V.bool false) a26.2)) (a23 (V.bool false) a20)))) (fun(a32:V→Rv)=>(AL .neq a8 (V.int .i64 0)).bind fun a33=>V.ite a33 (a32 (V.bool true)) ((AL .neq a14 (V.int .i64 0)).bind fun a34=>V.ite a34 (a32 (V.bool true)) ((AA6 .eql a7).bind fun a35=>a32 a35))))) (fun(a36:V→Rv)=>(Cl 10 (AA [(V.weak t0),t1] []) []).bind fun a37=>(un .not a37.1).bind fun a38=>V.ite a38 (a36 (V.bool true)) ((fA 24 22 1 (V.ref 0 [] 24)).bind fun a39=>(DZ [(V.weak t0),t1] 22 a39).bind fun a40=>(J8 a40).bind fun a41=>(AL .gtr a41 (V.int .i64 40)).bind fun a42=>V.ite a42 (a36 (V.bool true)) ((fA 24 3 0 (V.ref 0 [] 24)).bind fun a43=>(AZ [(V.weak t0),t1] 3 a43).bind fun a44=>(AL .gtr a44 (V.int .i64 12)).bind fun a45=>V.ite a45 (a36 (V.bool true)) ((DZ [(V.weak t0),t1] 24 (V.ref 0 [] 24)).bind fun a46=>(AZ [(V.weak t0),t1] 26 (V.ref 1 [] 26)).bind fun a47=>(Cl 13 (AA [(V.weak t0),t1] [a46,a47,t2,t3]) []).bind fun a48=>(un .not a48.1).bind fun a49=>a36 a49))))else none else none:=
 Au (by kernel_rfl)
def RU (t5 t12 t40 t41 t42:V) (n:Nat) (h:List V):Rv:=lp W 11 0 (cd 11 607) (bk 0 (sk 11 0 127 (lv 11 n))) ⟨[(5,t5),(12,t12),(40,t40),(41,t41),(42,t42)],h⟩
theorem QG (t5 t12 t40 t41 t42:V) (n:Nat) (h:List V):RU t5 t12 t40 t41 t42 n h=
 (AL .lss t42 t41).bind fun a20=>V.ite a20
  ((Gg 3 t40 t42).bind fun a21=>(AZ h 3 a21).bind fun a22=>if(Tc t12 t5&&true)=true then(BJ t12).bind fun a23=>(fA 103 35 6 a23).bind fun a24=>if Ky t12 a24=true then(CU h 35 a24).bind fun a25=>if Ky t5 t5=true then(AZ a25.2 26 t5).bind fun a26=>EQ P DU W (some t12) (V.clo 44 []) [a26,a22] a25.2 fun a27 a28=>(Tq 86 false (ck [(CG 85) a27] [a27])).bind fun a29=>(RS 86 (CG 85) false a28 a25.1 a29).bind fun a30=>(BJ t12).bind fun a31=>(fA 103 35 6 a31).bind fun a32=>(FT (Xm 86) 35 a28 a32 a30).bind fun a33=>(AL .add t42 (V.int .i64 1)).bind fun a34=>RU t5 t12 t40 t41 a34 n a33 else none else none else none)
  (if(List.all [(V.int .i64 0),t12] V.okE)=true then RP h (V.tup [t12,(V.int .i64 0)])else none):=
 DK (by kernel_rfl)
theorem AHZ (t0 t1 t2 t3:V) (h:List V):Cl 11 [t0,t1,t2,t3] h=
 if((CG 23) (V.weak t0)&&V.under (List.length h) (V.weak t0))=true then if((CG 25) t1&&V.under (List.length (h++[(V.weak t0)])) t1)=true then(DZ ((h++[(V.weak t0)])++[t1]) 24 (V.ref (List.length h) [] 24)).bind fun a1=>(AZ ((h++[(V.weak t0)])++[t1]) 26 (V.ref (List.length (h++[(V.weak t0)])) [] 26)).bind fun a2=>(Cl 41 (AA ((h++[(V.weak t0)])++[t1]) [a1,a2]) []).bind fun a3=>(AL .neq a3.1 (V.int .i64 0)).bind fun a4=>V.ite a4
  (if(List.all [(V.int .i64 130),V.nilp] V.okE)=true then RP ((h++[(V.weak t0)])++[t1]) (V.tup [V.nilp,(V.int .i64 130)])else none)
  ((fA 24 3 0 (V.ref (List.length h) [] 24)).bind fun a5=>(AZ ((h++[(V.weak t0)])++[t1]) 3 a5).bind fun a6=>(Cl 42 (AA ((h++[(V.weak t0)])++[t1]) [a6,t2,t3]) []).bind fun a7=>(ND a7.1 0).bind fun a8=>(ext a7.1 1).bind fun a9=>(AL .neq a9 (V.int .i64 0)).bind fun a10=>V.ite a10
  (if(List.all [(V.int .i64 130),V.nilp] V.okE)=true then RP ((h++[(V.weak t0)])++[t1]) (V.tup [V.nilp,(V.int .i64 130)])else none)
  ((fA 24 3 0 (V.ref (List.length h) [] 24)).bind fun a11=>(AZ ((h++[(V.weak t0)])++[t1]) 3 a11).bind fun a12=>(fA 24 22 1 (V.ref (List.length h) [] 24)).bind fun a13=>(DZ ((h++[(V.weak t0)])++[t1]) 22 a13).bind fun a14=>(CT 43 (AA ((h++[(V.weak t0)])++[t1]) [a14])).bind fun a15=>((ck [(Pv .i64) a12,(Xm 96) a15.1] [a12,(V.weak a15.1)]).map (.agg 23)).bind fun a16=>(AZ ((h++[(V.weak t0)])++[t1]) 26 (V.ref (List.length (h++[(V.weak t0)])) [] 26)).bind fun a17=>((ck [(CG 23) a16,(CG 25) a17,(Pv .i64) t2,(Pv .i64) t3] [(V.weak a16),a17,t2,t3,(V.int .i64 0),(V.lst 86 .nil []),(V.lst 86 .nil []),(V.bool false)]).map (.agg 102)).bind fun a18=>if((CG 102) (V.weak a18)&&V.under (List.length ((h++[(V.weak t0)])++[t1])) (V.weak a18))=true then(J8 a8).bind fun a19=>RU (V.ref (List.length (h++[(V.weak t0)])) [] 26) (V.ref (List.length ((h++[(V.weak t0)])++[t1])) [] 103) a8 a19 (V.int .i64 0) (List.length h) (((h++[(V.weak t0)])++[t1])++[(V.weak a18)])else none))else none else none:=
 Au (by kernel_rfl)
theorem AHa (t0:V):Cl 12 [t0] []=
 if((CG 23) (V.weak t0)&&V.under 0 (V.weak t0))=true then(fA 24 3 0 (V.ref 0 [] 24)).bind fun a1=>(AZ [(V.weak t0),(V.agg 23 [(V.int .i64 0),(V.lst 96 .nil [])])] 3 a1).bind fun a2=>(Tq 96 false (ck [] [])).bind fun a3=>(fA 24 22 1 (V.ref 0 [] 24)).bind fun a4=>(DZ [(V.weak t0),(V.agg 23 [(V.int .i64 0),(V.lst 96 .nil [])])] 22 a4).bind fun a5=>(RS 96 (CG 95) false [(V.weak t0),(V.agg 23 [(V.int .i64 0),(V.lst 96 .nil [])])] a3 a5).bind fun a6=>((ck [(Pv .i64) a2,(Xm 96) a6] [a2,(V.weak a6)]).map (.agg 23)).bind fun a7=>(FT (CG 23) 24 [(V.weak t0),(V.agg 23 [(V.int .i64 0),(V.lst 96 .nil [])])] (V.ref 1 [] 24) a7).bind fun a8=>(DZ a8 24 (V.ref 1 [] 24)).bind fun a9=>AV 0 a8 a9 else none:=
 Au (by kernel_rfl)
theorem AHb (t0 t1 t2 t3:V):Cl 13 [t0,t1,t2,t3] []=
 if((CG 23) (V.weak t0)&&V.under 0 (V.weak t0))=true then if((CG 25) t1&&V.under 1 t1)=true then jn (fun a1=>
 AV 0 [(V.weak t0),t1] a1) (fun(a2:V→Rv)=>(DZ [(V.weak t0),t1] 24 (V.ref 0 [] 24)).bind fun a3=>(AZ [(V.weak t0),t1] 26 (V.ref 1 [] 26)).bind fun a4=>(Cl 37 (AA [(V.weak t0),t1] [a3,a4]) []).bind fun a5=>V.ite a5.1 ((AL .geq t2 (V.int .i64 1)).bind fun a6=>V.ite a6 ((AL .leq t2 (V.int .i64 64)).bind fun a7=>V.ite a7 ((AL .geq t3 (V.int .i64 0)).bind fun a8=>V.ite a8 ((AL .lss t3 t2).bind fun a9=>a2 a9) (a2 (V.bool false))) (a2 (V.bool false))) (a2 (V.bool false))) (a2 (V.bool false)))else none else none:=
 Au (by kernel_rfl)
theorem AHc (t0 t1:V) (h:List V):Cl 18 [t0,t1] h=
 jn (fun a1=>
 V.ite a1
  (((ck [] [(V.int .i64 0),(V.str []),(V.str []),(V.lst 66 .nil []),(V.lst 66 .nil [])]).map (.agg 50)).bind fun a2=>(FT (CG 50) 51 (h++[(V.agg 50 [(V.int .i64 0),(V.str []),(V.str []),(V.lst 66 .nil []),(V.lst 66 .nil [])])]) (V.ref (List.length h) [] 51) a2).bind fun a3=>(DZ a3 51 (V.ref (List.length h) [] 51)).bind fun a4=>if(List.all [(V.int .i64 30),a4] V.okE)=true then AV (List.length h) a3 (V.tup [a4,(V.int .i64 30)])else none)
  ((BJ t0).bind fun a5=>(fA 103 35 5 a5).bind fun a6=>(DZ (h++[(V.agg 50 [(V.int .i64 0),(V.str []),(V.str []),(V.lst 66 .nil []),(V.lst 66 .nil [])])]) 35 a6).bind fun a7=>(Gg 86 a7 t1).bind fun a8=>(AZ (h++[(V.agg 50 [(V.int .i64 0),(V.str []),(V.str []),(V.lst 66 .nil []),(V.lst 66 .nil [])])]) 86 a8).bind fun a9=>if Zh true [a9]=true then(Cl 62 (AA (h++[(V.agg 50 [(V.int .i64 0),(V.str []),(V.str []),(V.lst 66 .nil []),(V.lst 66 .nil [])])]) [a9]) []).bind fun a10=>(BJ t0).bind fun a11=>(fA 103 35 6 a11).bind fun a12=>(DZ (h++[(V.agg 50 [(V.int .i64 0),(V.str []),(V.str []),(V.lst 66 .nil []),(V.lst 66 .nil [])])]) 35 a12).bind fun a13=>(Gg 86 a13 t1).bind fun a14=>(AZ (h++[(V.agg 50 [(V.int .i64 0),(V.str []),(V.str []),(V.lst 66 .nil []),(V.lst 66 .nil [])])]) 86 a14).bind fun a15=>if Zh true [a15]=true then(Cl 62 (AA (h++[(V.agg 50 [(V.int .i64 0),(V.str []),(V.str []),(V.lst 66 .nil []),(V.lst 66 .nil [])])]) [a15]) []).bind fun a16=>((ck [(Pv .i64) t1,Xl a10.1,Xl a16.1] [t1,a10.1,a16.1,(V.lst 66 .nil []),(V.lst 66 .nil [])]).map (.agg 50)).bind fun a17=>(FT (CG 50) 51 ((h++[(V.agg 50 [(V.int .i64 0),(V.str []),(V.str []),(V.lst 66 .nil []),(V.lst 66 .nil [])])])++[(V.agg 50 [(V.int .i64 0),(V.str []),(V.str []),(V.lst 66 .nil []),(V.lst 66 .nil [])])]) (V.ref (List.length (h++[(V.agg 50 [(V.int .i64 0),(V.str []),(V.str []),(V.lst 66 .nil []),(V.lst 66 .nil [])])])) [] 51) a17).bind fun a18=>(BJ t0).bind fun a19=>(fA 103 35 5 a19).bind fun a20=>(DZ a18 35 a20).bind fun a21=>(Cl 64 (AA a18 [a21]) []).bind fun a22=>(Cl 63 (AA a18 [a22.1,t1]) []).bind fun a23=>(ND a23.1 0).bind fun a24=>(ext a23.1 1).bind fun a25=>(fA 51 49 3 (V.ref (List.length (h++[(V.agg 50 [(V.int .i64 0),(V.str []),(V.str []),(V.lst 66 .nil []),(V.lst 66 .nil [])])])) [] 51)).bind fun a26=>(FT (Xm 66) 49 a18 a26 a24).bind fun a27=>(BJ t0).bind fun a28=>(fA 103 35 6 a28).bind fun a29=>(DZ a27 35 a29).bind fun a30=>(Cl 64 (AA a27 [a30]) []).bind fun a31=>(Cl 63 (AA a27 [a31.1,t1]) []).bind fun a32=>(ND a32.1 0).bind fun a33=>(ext a32.1 1).bind fun a34=>(fA 51 49 4 (V.ref (List.length (h++[(V.agg 50 [(V.int .i64 0),(V.str []),(V.str []),(V.lst 66 .nil []),(V.lst 66 .nil [])])])) [] 51)).bind fun a35=>(FT (Xm 66) 49 a27 a35 a33).bind fun a36=>(DZ a36 51 (V.ref (List.length (h++[(V.agg 50 [(V.int .i64 0),(V.str []),(V.str []),(V.lst 66 .nil []),(V.lst 66 .nil [])])])) [] 51)).bind fun a37=>(FT (CG 50) 51 a36 (V.ref (List.length h) [] 51) a37).bind fun a38=>(DZ a38 51 (V.ref (List.length h) [] 51)).bind fun a39=>if(List.all [(V.int .i64 0),a39] V.okE)=true then AV (List.length h) a38 (V.tup [a39,(V.int .i64 0)])else none else none else none)) (fun(a40:V→Rv)=>(BJ t0).bind fun a41=>(fA 103 4 7 a41).bind fun a42=>(AZ (h++[(V.agg 50 [(V.int .i64 0),(V.str []),(V.str []),(V.lst 66 .nil []),(V.lst 66 .nil [])])]) 4 a42).bind fun a43=>(un .not a43).bind fun a44=>V.ite a44 (a40 (V.bool true)) ((AL .lss t1 (V.int .i64 0)).bind fun a45=>V.ite a45 (a40 (V.bool true)) ((BJ t0).bind fun a46=>(fA 103 35 6 a46).bind fun a47=>(DZ (h++[(V.agg 50 [(V.int .i64 0),(V.str []),(V.str []),(V.lst 66 .nil []),(V.lst 66 .nil [])])]) 35 a47).bind fun a48=>(J8 a48).bind fun a49=>(AL .geq t1 a49).bind fun a50=>a40 a50))):=
 Au (by kernel_rfl)
theorem AHd (t0:V) (h:List V):Cl 25 [t0] h=
 (BJ t0).bind fun a1=>(fA 103 3 4 a1).bind fun a2=>(AZ h 3 a2).bind fun a3=>AV (List.length h) h a3:=
 Au (by kernel_rfl)
def RV (t0 t1 t5:V):Rv:=lp W 26 0 (cd 26 75) (bk 0 (sk 26 0 15 (lv 26 0))) ⟨[(0,t0),(1,t1),(5,t5)],[]⟩
theorem QH (t0 t1 t5:V):RV t0 t1 t5=
 (J8 (V.weak t0)).bind fun a4=>(AL .lss t5 a4).bind fun a5=>V.ite a5
  ((Gg 86 (V.weak t0) t5).bind fun a6=>(AZ [] 86 a6).bind fun a7=>(Gg 86 (V.weak t1) t5).bind fun a8=>(AZ [] 86 a8).bind fun a9=>(Xn (CG 85) .neq a7 a9).bind fun a10=>V.ite a10
  (AV 0 [] (V.bool false))
  ((AL .add t5 (V.int .i64 1)).bind fun a11=>RV t0 t1 a11))
  (AV 0 [] (V.bool true)):=
 DK (by kernel_rfl)
theorem AHe (t0 t1:V):Cl 26 [t0,t1] []=
 (J8 (V.weak t0)).bind fun a1=>(J8 (V.weak t1)).bind fun a2=>(AL .neq a1 a2).bind fun a3=>V.ite a3
  (AV 0 [] (V.bool false))
  (RV t0 t1 (V.int .i64 0)):=
 Au (by kernel_rfl)
theorem AHf (t0:V) (h:List V):Cl 27 [t0] h=
 (BJ t0).bind fun a1=>(fA 103 35 6 a1).bind fun a2=>(DZ h 35 a2).bind fun a3=>(CT 82 (AA h [a3])).bind fun a4=>AV (List.length h) h a4.1:=
 Au (by kernel_rfl)
theorem AHg (t0:V) (h:List V):Cl 28 [t0] h=
 (BJ t0).bind fun a1=>(fA 103 35 6 a1).bind fun a2=>(DZ (h++[(V.agg 65 (List.replicate 32 (V.int .u8 0)))]) 35 a2).bind fun a3=>(Cl 83 (AA (h++[(V.agg 65 (List.replicate 32 (V.int .u8 0)))]) [a3]) []).bind fun a4=>(FT (CG 65) 66 (h++[(V.agg 65 (List.replicate 32 (V.int .u8 0)))]) (V.ref (List.length h) [] 66) a4.1).bind fun a5=>(AZ a5 66 (V.ref (List.length h) [] 66)).bind fun a6=>AV (List.length h) a5 a6:=
 Au (by kernel_rfl)
theorem AHh (t0:V):Cl 29 [t0] []=
 (Cl 66 (AA [(V.agg 65 (List.replicate 32 (V.int .u8 0)))] [t0]) []).bind fun a1=>(Cl 84 (AA [(V.agg 65 (List.replicate 32 (V.int .u8 0)))] [a1.1]) []).bind fun a2=>(FT (CG 65) 66 [(V.agg 65 (List.replicate 32 (V.int .u8 0)))] (V.ref 0 [] 66) a2.1).bind fun a3=>(AZ a3 66 (V.ref 0 [] 66)).bind fun a4=>AV 0 a3 a4:=
 Au (by kernel_rfl)
def RX (t3 t7 t19 t20:V) (h:List V):Rv:=lp W 30 0 (cd 30 151) (bk 0 (sk 30 0 31 (lv 30 0))) ⟨[(3,t3),(7,t7),(19,t19),(20,t20)],h⟩
theorem QI (t3 t7 t19 t20:V) (h:List V):RX t3 t7 t19 t20 h=
 (AL .lss t20 t19).bind fun a10=>V.ite a10
  ((AZ h 26 t3).bind fun a11=>(Cl 44 (AA h [a11,t20]) []).bind fun a12=>(Gg 86 (V.weak t7) t20).bind fun a13=>(FT (CG 85) 86 h a13 a12.1).bind fun a14=>(AL .add t20 (V.int .i64 1)).bind fun a15=>RX t3 t7 t19 a15 a14)
  (if(List.all [(V.int .i64 0),t7] V.okE)=true then AV 0 h (V.tup [t7,(V.int .i64 0)])else none):=
 DK (by kernel_rfl)
theorem AHi (t0 t1:V):Cl 30 [t0,t1] []=
 if((CG 23) (V.weak t0)&&V.under 0 (V.weak t0))=true then if((CG 25) t1&&V.under 1 t1)=true then(DZ [(V.weak t0),t1] 24 (V.ref 0 [] 24)).bind fun a1=>(AZ [(V.weak t0),t1] 26 (V.ref 1 [] 26)).bind fun a2=>(Cl 41 (AA [(V.weak t0),t1] [a1,a2]) []).bind fun a3=>(AL .neq a3.1 (V.int .i64 0)).bind fun a4=>V.ite a4
  (if(List.all [a3.1,(V.weak (V.lst 86 .nil []))] V.okE)=true then AV 0 [(V.weak t0),t1] (V.tup [(V.weak (V.lst 86 .nil [])),a3.1])else none)
  ((fA 24 3 0 (V.ref 0 [] 24)).bind fun a5=>(AZ [(V.weak t0),t1] 3 a5).bind fun a6=>(mkL 86 (V.agg 85 [(V.int .i64 0),(V.int .i64 0),(V.bool false),(V.bool false),(V.int .i64 0)]) a6 a6).bind fun a7=>(C9 [(V.weak t0),t1] a7).bind fun a8=>(J8 (V.weak a8.1)).bind fun a9=>RX (V.ref 1 [] 26) a8.1 a9 (V.int .i64 0) a8.2)else none else none:=
 Au (by kernel_rfl)
def NI (t0 t1 t2 t7 t8:V):Rv:=lp W 31 0 (cd 31 75) (bk 0 (sk 31 0 15 (lv 31 0))) ⟨[(0,t0),(1,t1),(2,t2),(7,t7),(8,t8)],[]⟩
theorem KD (t0 t1 t2 t7 t8:V):NI t0 t1 t2 t7 t8=
 (J8 (V.weak t0)).bind fun a2=>(AL .lss t8 a2).bind fun a3=>V.ite a3
  ((Gg 86 (V.weak t0) t8).bind fun a4=>(fA 86 3 0 a4).bind fun a5=>(AZ [] 3 a5).bind fun a6=>(Cl 85 (AA [] [a6,t1]) []).bind fun a7=>(AL .eql a7.1 t2).bind fun a8=>V.ite a8
  ((Gg 86 (V.weak t0) t8).bind fun a9=>(AZ [] 86 a9).bind fun a10=>(Tq 86 false (ck [(CG 85) a10] [a10])).bind fun a11=>(RS 86 (CG 85) false [] t7 a11).bind fun a12=>(AL .add t8 (V.int .i64 1)).bind fun a13=>NI t0 t1 t2 a12 a13)
  ((AL .add t8 (V.int .i64 1)).bind fun a14=>NI t0 t1 t2 t7 a14))
  (AV 0 [] t7):=
 DK (by kernel_rfl)
theorem AHj (t0 t1 t2:V):Cl 31 [t0,t1,t2] []=
 (Tq 86 false (ck [] [])).bind fun a1=>NI t0 t1 t2 a1 (V.int .i64 0):=
 Au (by kernel_rfl)
theorem ABH (t0:V):Cl 36 [t0] []=
 if((CG 85) t0&&V.under 0 t0)=true then(AZ [t0] 86 (V.ref 0 [] 86)).bind fun a1=>(Cl 92 (AA [t0] [a1]) []).bind fun a2=>(un .not a2.1).bind fun a3=>V.ite a3
  (AV 0 [t0] (V.str []))
  ((fA 86 3 0 (V.ref 0 [] 86)).bind fun a4=>(AZ [t0] 3 a4).bind fun a5=>(IJ .u64 a5).bind fun a6=>(Cl 72 (AA [t0] [a6]) []).bind fun a7=>(fA 86 2 1 (V.ref 0 [] 86)).bind fun a8=>(AZ [t0] 2 a8).bind fun a9=>(Cl 93 (AA [t0] [a9]) []).bind fun a10=>(AL .add a7.1 a10.1).bind fun a11=>(fA 86 4 2 (V.ref 0 [] 86)).bind fun a12=>(AZ [t0] 4 a12).bind fun a13=>(Cl 94 (AA [t0] [a13]) []).bind fun a14=>(AL .add a11 a14.1).bind fun a15=>(fA 86 4 3 (V.ref 0 [] 86)).bind fun a16=>(AZ [t0] 4 a16).bind fun a17=>(Cl 94 (AA [t0] [a17]) []).bind fun a18=>(AL .add a15 a18.1).bind fun a19=>(fA 86 2 4 (V.ref 0 [] 86)).bind fun a20=>(AZ [t0] 2 a20).bind fun a21=>(Cl 93 (AA [t0] [a21]) []).bind fun a22=>(AL .add a19 a22.1).bind fun a23=>AV 0 [t0] a23)else none:=
 Au (by kernel_rfl)
theorem AHk (t0 t1:V):Cl 37 [t0,t1] []=
 if((CG 23) (V.weak t0)&&V.under 0 (V.weak t0))=true then if((CG 25) t1&&V.under 1 t1)=true then jn (fun a1=>
 AV 0 [(V.weak t0),t1] a1) (fun(a2:V→Rv)=>(DZ [(V.weak t0),t1] 24 (V.ref 0 [] 24)).bind fun a3=>(Cl 95 (AA [(V.weak t0),t1] [a3]) []).bind fun a4=>(AL .eql a4.1 (V.int .i64 0)).bind fun a5=>V.ite a5 ((fA 26 9 0 (V.ref 1 [] 26)).bind fun a6=>(AZ [(V.weak t0),t1] 9 a6).bind fun a7=>(Cl 96 (AA [(V.weak t0),t1] [a7]) []).bind fun a8=>V.ite a8.1 ((fA 26 3 1 (V.ref 1 [] 26)).bind fun a9=>(AZ [(V.weak t0),t1] 3 a9).bind fun a10=>(AL .geq a10 (V.int .i64 0)).bind fun a11=>V.ite a11 ((fA 26 3 1 (V.ref 1 [] 26)).bind fun a12=>(AZ [(V.weak t0),t1] 3 a12).bind fun a13=>(fA 24 3 0 (V.ref 0 [] 24)).bind fun a14=>(AZ [(V.weak t0),t1] 3 a14).bind fun a15=>(AL .lss a13 a15).bind fun a16=>V.ite a16 ((fA 26 3 2 (V.ref 1 [] 26)).bind fun a17=>(AZ [(V.weak t0),t1] 3 a17).bind fun a18=>(AL .geq a18 (V.int .i64 1)).bind fun a19=>V.ite a19 ((fA 26 3 2 (V.ref 1 [] 26)).bind fun a20=>(AZ [(V.weak t0),t1] 3 a20).bind fun a21=>(AL .leq a21 (V.int .i64 64)).bind fun a22=>a2 a22) (a2 (V.bool false))) (a2 (V.bool false))) (a2 (V.bool false))) (a2 (V.bool false))) (a2 (V.bool false)))else none else none:=
 Au (by kernel_rfl)
theorem AHl (t0 t1:V):Cl 41 [t0,t1] []=
 if((CG 23) (V.weak t0)&&V.under 0 (V.weak t0))=true then if((CG 25) t1&&V.under 1 t1)=true then jn (fun a1=>
 V.ite a1
  (AV 0 [(V.weak t0),t1] (V.int .i64 70))
  (AV 0 [(V.weak t0),t1] (V.int .i64 0))) (fun(a2:V→Rv)=>(DZ [(V.weak t0),t1] 24 (V.ref 0 [] 24)).bind fun a3=>(Cl 102 (AA [(V.weak t0),t1] [a3]) []).bind fun a4=>(AL .neq a4.1 (V.int .i64 0)).bind fun a5=>V.ite a5 (a2 (V.bool true)) ((fA 26 9 0 (V.ref 1 [] 26)).bind fun a6=>(AZ [(V.weak t0),t1] 9 a6).bind fun a7=>(Cl 103 (AA [(V.weak t0),t1] [a7]) []).bind fun a8=>(un .not a8.1).bind fun a9=>V.ite a9 (a2 (V.bool true)) ((fA 26 3 1 (V.ref 1 [] 26)).bind fun a10=>(AZ [(V.weak t0),t1] 3 a10).bind fun a11=>(AL .lss a11 (V.int .i64 0)).bind fun a12=>V.ite a12 (a2 (V.bool true)) ((fA 26 3 1 (V.ref 1 [] 26)).bind fun a13=>(AZ [(V.weak t0),t1] 3 a13).bind fun a14=>(fA 24 3 0 (V.ref 0 [] 24)).bind fun a15=>(AZ [(V.weak t0),t1] 3 a15).bind fun a16=>(AL .geq a14 a16).bind fun a17=>V.ite a17 (a2 (V.bool true)) ((fA 26 3 2 (V.ref 1 [] 26)).bind fun a18=>(AZ [(V.weak t0),t1] 3 a18).bind fun a19=>(AL .lss a19 (V.int .i64 1)).bind fun a20=>V.ite a20 (a2 (V.bool true)) ((fA 26 3 2 (V.ref 1 [] 26)).bind fun a21=>(AZ [(V.weak t0),t1] 3 a21).bind fun a22=>(AL .gtr a22 (V.int .i64 64)).bind fun a23=>a2 a23))))))else none else none:=
 Au (by kernel_rfl)
def NJ (t8 t9 t25 t26:V) (h:List V):Rv:=lp W 42 0 (cd 42 303) (bk 0 (sk 42 0 63 (lv 42 0))) ⟨[(8,t8),(9,t9),(25,t25),(26,t26)],h⟩
theorem QJ (t8 t9 t25 t26:V) (h:List V):NJ t8 t9 t25 t26 h=
 (AL .lss t26 t25).bind fun a3=>V.ite a3
  (Cj P DU W t8 [t26] h fun a4 a5=>if V.noOwn a4=true then V.ite a4
  ((Tq 3 false (ck [(Pv .i64) t26] [t26])).bind fun a6=>(RS 3 (Pv .i64) false a5 t9 a6).bind fun a7=>(AL .add t26 (V.int .i64 1)).bind fun a8=>NJ t8 a7 t25 a8 a5)
  ((AL .add t26 (V.int .i64 1)).bind fun a9=>NJ t8 t9 t25 a9 a5)else none)
  (if(List.all [(V.int .i64 0),t9] V.okE)=true then AV 0 h (V.tup [t9,(V.int .i64 0)])else none):=
 DK (by kernel_rfl)
theorem AHm (t0 t1 t2:V):Cl 42 [t0,t1,t2] []=
 if((Pv .i64) t1&&V.under 0 t1)=true then if((Pv .i64) t2&&V.under 1 t2)=true then jn (fun a1=>
 V.ite a1
  (if(List.all [(V.int .i64 60),(V.weak (V.lst 3 .nil []))] V.okE)=true then AV 0 [t1,t2] (V.tup [(V.weak (V.lst 3 .nil [])),(V.int .i64 60)])else none)
  ((if(List.all [(V.ref 0 [] 3),(V.ref 1 [] 3)] V.capOk)=true then some (V.clo 105 [(V.ref 0 [] 3),(V.ref 1 [] 3)])else none).bind fun a2=>NJ a2 (V.weak (V.lst 3 .nil [])) t0 (V.int .i64 0) [t1,t2])) (fun(a10:V→Rv)=>(AZ [t1,t2] 3 (V.ref 0 [] 3)).bind fun a11=>(Cl 104 (AA [t1,t2] [t0,a11]) []).bind fun a12=>(un .not a12.1).bind fun a13=>V.ite a13 (a10 (V.bool true)) ((AZ [t1,t2] 3 (V.ref 1 [] 3)).bind fun a14=>(AL .lss a14 (V.int .i64 0)).bind fun a15=>V.ite a15 (a10 (V.bool true)) ((AZ [t1,t2] 3 (V.ref 1 [] 3)).bind fun a16=>(AZ [t1,t2] 3 (V.ref 0 [] 3)).bind fun a17=>(AL .geq a16 a17).bind fun a18=>a10 a18)))else none else none:=
 Au (by kernel_rfl)
theorem WT (t0:V):Cl 43 [t0] []=
 (IQ .eql (V.weak t0) (V.lst 96 .nil [])).bind fun a1=>V.ite a1
  (AV 0 [] (V.weak (V.lst 96 .nil [])))
  ((Tq 96 false (ck [] [])).bind fun a2=>(RS 96 (CG 95) false [] a2 t0).bind fun a3=>AV 0 [] a3):=
 Au (by kernel_rfl)
theorem AHn (t0 t1:V):Cl 44 [t0,t1] []=
 if((CG 25) t0&&V.under 0 t0)=true then(fA 26 9 0 (V.ref 0 [] 26)).bind fun a1=>(AZ [t0,(V.agg 85 [(V.int .i64 0),(V.int .i64 0),(V.bool false),(V.bool false),(V.int .i64 0)])] 9 a1).bind fun a2=>(Cl 103 (AA [t0,(V.agg 85 [(V.int .i64 0),(V.int .i64 0),(V.bool false),(V.bool false),(V.int .i64 0)])] [a2]) []).bind fun a3=>(un .not a3.1).bind fun a4=>V.ite a4
  (((ck [] [(V.int .i64 0),(V.int .i64 0),(V.bool false),(V.bool false),(V.int .i64 0)]).map (.agg 85)).bind fun a5=>(FT (CG 85) 86 [t0,(V.agg 85 [(V.int .i64 0),(V.int .i64 0),(V.bool false),(V.bool false),(V.int .i64 0)])] (V.ref 1 [] 86) a5).bind fun a6=>(AZ a6 86 (V.ref 1 [] 86)).bind fun a7=>AV 0 a6 a7)
  (((ck [(Pv .i64) t1,tyB (V.bool true)] [t1,(V.int .i64 0),(V.bool true),(V.bool false),(V.int .i64 0)]).map (.agg 85)).bind fun a8=>(FT (CG 85) 86 [t0,(V.agg 85 [(V.int .i64 0),(V.int .i64 0),(V.bool false),(V.bool false),(V.int .i64 0)]),(V.agg 85 [(V.int .i64 0),(V.int .i64 0),(V.bool false),(V.bool false),(V.int .i64 0)])] (V.ref 2 [] 86) a8).bind fun a9=>(fA 26 9 0 (V.ref 0 [] 26)).bind fun a10=>(AZ a9 9 a10).bind fun a11=>(AL .eql a11 (V.str [109,97,120])).bind fun a12=>V.ite a12
  ((AL .mul (V.int .i64 37) t1).bind fun a13=>(AL .add a13 (V.int .i64 11)).bind fun a14=>(AL .rem a14 (V.int .i64 64)).bind fun a15=>(fA 86 2 1 (V.ref 2 [] 86)).bind fun a16=>(FT (Pv .i64) 2 a9 a16 a15).bind fun a17=>(AZ a17 86 (V.ref 2 [] 86)).bind fun a18=>(FT (CG 85) 86 a17 (V.ref 1 [] 86) a18).bind fun a19=>(AZ a19 86 (V.ref 1 [] 86)).bind fun a20=>AV 0 a19 a20)
  ((AL .eql a11 (V.str [108,97,98,101,108])).bind fun a21=>V.ite a21
  ((fA 86 2 1 (V.ref 2 [] 86)).bind fun a22=>(FT (Pv .i64) 2 a9 a22 t1).bind fun a23=>(AZ a23 86 (V.ref 2 [] 86)).bind fun a24=>(FT (CG 85) 86 a23 (V.ref 1 [] 86) a24).bind fun a25=>(AZ a25 86 (V.ref 1 [] 86)).bind fun a26=>AV 0 a25 a26)
  ((AL .eql a11 (V.str [98,102,115])).bind fun a27=>V.ite a27
  ((fA 26 3 1 (V.ref 0 [] 26)).bind fun a28=>(AZ a9 3 a28).bind fun a29=>(AL .neq t1 a29).bind fun a30=>V.ite a30
  ((fA 86 2 1 (V.ref 2 [] 86)).bind fun a31=>(FT (Pv .i64) 2 a9 a31 (V.int .i64 (-1))).bind fun a32=>(AZ a32 86 (V.ref 2 [] 86)).bind fun a33=>(FT (CG 85) 86 a32 (V.ref 1 [] 86) a33).bind fun a34=>(AZ a34 86 (V.ref 1 [] 86)).bind fun a35=>AV 0 a34 a35)
  ((AZ a9 86 (V.ref 2 [] 86)).bind fun a36=>(FT (CG 85) 86 a9 (V.ref 1 [] 86) a36).bind fun a37=>(AZ a37 86 (V.ref 1 [] 86)).bind fun a38=>AV 0 a37 a38))
  ((AL .eql a11 (V.str [115,115,115,112])).bind fun a39=>V.ite a39
  ((fA 26 3 1 (V.ref 0 [] 26)).bind fun a40=>(AZ a9 3 a40).bind fun a41=>(AL .neq t1 a41).bind fun a42=>V.ite a42
  ((fA 86 2 1 (V.ref 2 [] 86)).bind fun a43=>(FT (Pv .i64) 2 a9 a43 (V.int .i64 (-1))).bind fun a44=>(AZ a44 86 (V.ref 2 [] 86)).bind fun a45=>(FT (CG 85) 86 a44 (V.ref 1 [] 86) a45).bind fun a46=>(AZ a46 86 (V.ref 1 [] 86)).bind fun a47=>AV 0 a46 a47)
  ((AZ a9 86 (V.ref 2 [] 86)).bind fun a48=>(FT (CG 85) 86 a9 (V.ref 1 [] 86) a48).bind fun a49=>(AZ a49 86 (V.ref 1 [] 86)).bind fun a50=>AV 0 a49 a50))
  ((AL .eql a11 (V.str [114,97,110,107])).bind fun a51=>V.ite a51
  ((fA 86 2 1 (V.ref 2 [] 86)).bind fun a52=>(FT (Pv .i64) 2 a9 a52 (V.int .i64 65536)).bind fun a53=>(AZ a53 86 (V.ref 2 [] 86)).bind fun a54=>(FT (CG 85) 86 a53 (V.ref 1 [] 86) a54).bind fun a55=>(AZ a55 86 (V.ref 1 [] 86)).bind fun a56=>AV 0 a55 a56)
  ((AL .eql a11 (V.str [119,97,108,107,115])).bind fun a57=>V.ite a57
  ((fA 86 2 1 (V.ref 2 [] 86)).bind fun a58=>(FT (Pv .i64) 2 a9 a58 (V.int .i64 1)).bind fun a59=>(AZ a59 86 (V.ref 2 [] 86)).bind fun a60=>(FT (CG 85) 86 a59 (V.ref 1 [] 86) a60).bind fun a61=>(AZ a61 86 (V.ref 1 [] 86)).bind fun a62=>AV 0 a61 a62)
  ((AZ a9 86 (V.ref 2 [] 86)).bind fun a63=>(FT (CG 85) 86 a9 (V.ref 1 [] 86) a63).bind fun a64=>(AZ a64 86 (V.ref 1 [] 86)).bind fun a65=>AV 0 a64 a65)))))))else none:=
 Au (by kernel_rfl)
theorem ABJ (t0:V):Cl 62 [t0] []=
 if((CG 85) t0&&V.under 0 t0)=true then(AZ [t0] 86 (V.ref 0 [] 86)).bind fun a1=>(Cl 128 (AA [t0] [a1]) []).bind fun a2=>(AL .neq a2.1 (V.int .i64 0)).bind fun a3=>V.ite a3
  (AV 0 [t0] (V.str []))
  ((Cl 68 (AY []) [t0]).bind fun a4=>(fA 86 3 0 (V.ref 0 [] 86)).bind fun a5=>(AZ a4.2 3 a5).bind fun a6=>(IJ .u64 a6).bind fun a7=>(Cl 69 (AY [a4.1,a7]) a4.2).bind fun a8=>(fA 86 2 1 (V.ref 0 [] 86)).bind fun a9=>(AZ a8.2 2 a9).bind fun a10=>(Cl 129 (AY [a4.1,a10]) a8.2).bind fun a11=>(fA 86 4 2 (V.ref 0 [] 86)).bind fun a12=>(AZ a11.2 4 a12).bind fun a13=>(Cl 130 (AA a11.2 [a13]) []).bind fun a14=>(Cl 69 (AY [a4.1,a14.1]) a11.2).bind fun a15=>(fA 86 4 3 (V.ref 0 [] 86)).bind fun a16=>(AZ a15.2 4 a16).bind fun a17=>(Cl 130 (AA a15.2 [a17]) []).bind fun a18=>(Cl 69 (AY [a4.1,a18.1]) a15.2).bind fun a19=>(fA 86 2 4 (V.ref 0 [] 86)).bind fun a20=>(AZ a19.2 2 a20).bind fun a21=>(Cl 129 (AY [a4.1,a21]) a19.2).bind fun a22=>(Cl 71 (AY [a4.1]) a22.2).bind fun a23=>AV 0 a23.2 a23.1)else none:=
 Au (by kernel_rfl)
def RY (t3 t9 t10 t11:V) (h:List V):Rv:=lp W 64 0 (cd 64 75) (bk 0 (sk 64 0 15 (lv 64 0))) ⟨[(3,t3),(9,t9),(10,t10),(11,t11)],h⟩
theorem QK (t3 t9 t10 t11:V) (h:List V):RY t3 t9 t10 t11 h=
 (AL .lss t11 t10).bind fun a5=>V.ite a5
  ((Gg 86 t9 t11).bind fun a6=>(AZ h 86 a6).bind fun a7=>(FT (CG 85) 86 (h++[(V.agg 85 [(V.int .i64 0),(V.int .i64 0),(V.bool false),(V.bool false),(V.int .i64 0)])]) (V.ref (List.length h) [] 86) a7).bind fun a8=>(AZ a8 86 (V.ref (List.length h) [] 86)).bind fun a9=>(Cl 62 (AA a8 [a9]) []).bind fun a10=>(Gg 9 (V.weak t3) t11).bind fun a11=>(FT Xl 9 a8 a11 a10.1).bind fun a12=>(AL .add t11 (V.int .i64 1)).bind fun a13=>if Aa (List.length h) [t3,t9,t10,a13]=true then RY t3 t9 t10 a13 (List.take (List.length h) a12)else none)
  (AV 0 h t3):=
 DK (by kernel_rfl)
theorem AHo (t0:V):Cl 64 [t0] []=
 (J8 (V.weak t0)).bind fun a1=>(mkL 9 (V.str []) a1 a1).bind fun a2=>(C9 [] a2).bind fun a3=>(J8 t0).bind fun a4=>RY a3.1 t0 a4 (V.int .i64 0) a3.2:=
 Au (by kernel_rfl)
def RZ (t0 t3 t4:V):Rv:=lp W 66 0 (cd 66 75) (bk 0 (sk 66 0 15 (lv 66 0))) ⟨[(0,t0),(3,t3),(4,t4)],[]⟩
theorem QL (t0 t3 t4:V):RZ t0 t3 t4=
 (J8 (V.weak t0)).bind fun a2=>(AL .lss t4 a2).bind fun a3=>V.ite a3
  ((Gg 86 (V.weak t0) t4).bind fun a4=>(AZ [] 86 a4).bind fun a5=>(Cl 36 (AA [] [a5]) []).bind fun a6=>(Tq 9 false (ck [Xl a6.1] [a6.1])).bind fun a7=>(RS 9 Xl false [] t3 a7).bind fun a8=>(AL .add t4 (V.int .i64 1)).bind fun a9=>RZ t0 a8 a9)
  (AV 0 [] t3):=
 DK (by kernel_rfl)
theorem AHp (t0:V):Cl 66 [t0] []=
 (Tq 9 false (ck [] [])).bind fun a1=>RZ t0 a1 (V.int .i64 0):=
 Au (by kernel_rfl)
def ABK (k:Rv):Rv:=
 k
def ABL (h:List V) (k:V→List V→Rv):Rv:=
 (bld P 191 []).bind fun t1=>if(Bd P 191 (V.weak t1)&&V.under (List.length h) (V.weak t1))=true then k (V.ref (List.length h) [] 191) (h++[(V.weak t1)])else none
theorem AHq (h:List V):Cl 68 [] h=
 ABK (ABL h fun a1 a2=>
  RP a2 a1):=
 Au (by kernel_rfl)
def Rf (t0 t1:V) (n:Nat) (h:List V):Rv:=lp W 69 0 (cd 69 8) (bk 0 (sk 69 0 3 (lv 69 n))) ⟨[(0,t0),(1,t1)],h⟩
def ABM (t1:V) (k:V→Rv):Rv:=
 (AL .geq t1 (V.int .u64 128)).bind fun t5=>k t5
def ABN (t0 t1:V) (h:List V) (k:List V→Rv):Rv:=
 (BJ t0).bind fun t10=>(EL P 191 0 t10).bind fun t11=>(CU h 172 t11).bind fun r=>(conv P r.2 132 5 t1).bind fun t14=>(AL .or t14 (V.int .u8 128)).bind fun t15=>(Be P 172 1 [(0,t15)]).bind fun t16=>(Dn P 172 r.2 r.1 t16).bind fun t17=>(BJ t0).bind fun t18=>(EL P 191 0 t18).bind fun t19=>(FQ P r.2 172 t19 t17).bind fun a1=>k a1
def ABO (t1:V) (k:V→Rv):Rv:=
 (AL .shr t1 (V.int .u64 7)).bind fun t7=>k t7
def ABP (t0 t1:V) (h:List V) (k:List V→Rv):Rv:=
 (BJ t0).bind fun t22=>(EL P 191 0 t22).bind fun t23=>(CU h 172 t23).bind fun r=>(conv P r.2 132 5 t1).bind fun t26=>(Be P 172 1 [(0,t26)]).bind fun t27=>(Dn P 172 r.2 r.1 t27).bind fun t28=>(BJ t0).bind fun t29=>(EL P 191 0 t29).bind fun t30=>(FQ P r.2 172 t30 t28).bind fun a1=>k a1
theorem Zr (t0 t1:V) (n:Nat) (h:List V):Rf t0 t1 n h=
 ABM t1 fun a1=>
  V.ite a1
  (ABN t0 t1 h fun a2=>
  ABO t1 fun a3=>
  Rf t0 a3 n a2)
  (ABP t0 t1 h fun a4=>
  if(List.all [] V.okE)=true then AV n a4 (V.tup [])else none):=
 DK (by kernel_rfl)
theorem AHr (t0 t1:V) (h:List V):Cl 69 [t0,t1] h=
 Rf t0 t1 (List.length h) h:=
 Au (by kernel_rfl)
def ABQ (k:Rv):Rv:=
 k
def ABR (t0:V) (h:List V) (k:V→Rv):Rv:=
 (BJ t0).bind fun t4=>(EL P 191 0 t4).bind fun t5=>(DZ h 172 t5).bind fun t6=>(conv P h 172 9 t6).bind fun t7=>k t7
theorem AHs (t0:V) (h:List V):Cl 71 [t0] h=
 ABQ (ABR t0 h fun a1=>
  AV (List.length h) h a1):=
 Au (by kernel_rfl)
def ABS (k:Rv):Rv:=
 k
def ABT (t0:V) (k:V→Rv):Rv:=
 (AL .lss t0 (V.int .u64 128)).bind fun t4=>k t4
def ABU (t0:V) (k:V→Rv):Rv:=
 (conv P [] 132 5 t0).bind fun t6=>(Be P 172 1 [(0,t6)]).bind fun t7=>(conv P [] 172 9 t7).bind fun t8=>k t8
def ABV (t0:V) (k:V→Rv):Rv:=
 (AL .rem t0 (V.int .u64 128)).bind fun t10=>(AL .add t10 (V.int .u64 128)).bind fun t11=>(conv P [] 132 5 t11).bind fun t12=>(Be P 172 1 [(0,t12)]).bind fun t13=>(conv P [] 172 9 t13).bind fun t14=>(AL .quo t0 (V.int .u64 128)).bind fun t16=>(Cl 72 (AA [] [t16]) []).bind fun r=>(AL .add t14 r.1).bind fun t18=>k t18
theorem AHt (t0:V):Cl 72 [t0] []=
 ABS (ABT t0 fun a1=>
  V.ite a1
  (ABU t0 fun a2=>
  AV 0 [] a2)
  (ABV t0 fun a3=>
  AV 0 [] a3)):=
 Au (by kernel_rfl)
theorem WU (t0:V):Cl 82 [t0] []=
 (IQ .eql (V.weak t0) (V.lst 86 .nil [])).bind fun a1=>V.ite a1
  (AV 0 [] (V.weak (V.lst 86 .nil [])))
  ((Tq 86 false (ck [] [])).bind fun a2=>(RS 86 (CG 85) false [] a2 t0).bind fun a3=>AV 0 [] a3):=
 Au (by kernel_rfl)
theorem AHu (t0:V):Cl 83 [t0] []=
 (Cl 64 (AA [(V.agg 65 (List.replicate 32 (V.int .u8 0)))] [t0]) []).bind fun a1=>(Cl 88 (AA [(V.agg 65 (List.replicate 32 (V.int .u8 0)))] [a1.1]) []).bind fun a2=>(FT (CG 65) 66 [(V.agg 65 (List.replicate 32 (V.int .u8 0)))] (V.ref 0 [] 66) a2.1).bind fun a3=>(AZ a3 66 (V.ref 0 [] 66)).bind fun a4=>AV 0 a3 a4:=
 Au (by kernel_rfl)
theorem AHv (t0:V):Cl 84 [t0] []=
 (J8 (V.weak t0)).bind fun a1=>(Cl 142 (AA [(V.agg 65 (List.replicate 32 (V.int .u8 0)))] [t0]) []).bind fun a2=>(Cl 91 (AA [(V.agg 65 (List.replicate 32 (V.int .u8 0)))] [a1,a2.1]) []).bind fun a3=>(FT (CG 65) 66 [(V.agg 65 (List.replicate 32 (V.int .u8 0)))] (V.ref 0 [] 66) a3.1).bind fun a4=>(AZ a4 66 (V.ref 0 [] 66)).bind fun a5=>AV 0 a4 a5:=
 Au (by kernel_rfl)
theorem AHw (t0 t1:V):Cl 85 [t0,t1] []=
 jn (fun a1=>
 V.ite a1
  (AV 0 [] (V.int .i64 (-1)))
  ((IJ .u64 t0).bind fun a2=>(AL .rem a2 (V.int .u64 4294967296)).bind fun a3=>(IJ .u32 a3).bind fun a4=>(Cl 143 (AA [] [a4]) []).bind fun a5=>(IJ .u32 t1).bind fun a6=>(AL .rem a5.1 a6).bind fun a7=>(IJ .i64 a7).bind fun a8=>AV 0 [] a8)) (fun(a9:V→Rv)=>(AL .lss t0 (V.int .i64 0)).bind fun a10=>V.ite a10 (a9 (V.bool true)) ((AL .lss t1 (V.int .i64 1)).bind fun a11=>V.ite a11 (a9 (V.bool true)) ((AL .gtr t1 (V.int .i64 64)).bind fun a12=>a9 a12))):=
 Au (by kernel_rfl)
theorem AHx (t0:V):Cl 88 [t0] []=
 (J8 (V.weak t0)).bind fun a1=>(Cl 133 (AA [(V.agg 65 (List.replicate 32 (V.int .u8 0)))] [t0]) []).bind fun a2=>(Cl 146 (AA [(V.agg 65 (List.replicate 32 (V.int .u8 0)))] [a1,a2.1]) []).bind fun a3=>(FT (CG 65) 66 [(V.agg 65 (List.replicate 32 (V.int .u8 0)))] (V.ref 0 [] 66) a3.1).bind fun a4=>(AZ a4 66 (V.ref 0 [] 66)).bind fun a5=>AV 0 a4 a5:=
 Au (by kernel_rfl)
def ABW (h:List V) (k:V→List V→Rv):Rv:=
 k (V.ref (List.length h) [] 66) (h++[zero P 66])
def ABX (t0 t1 t4:V) (h:List V) (k:List V→Rv):Rv:=
 (conv P h 3 132 t0).bind fun t6=>(Cl 72 (AA h [t6]) []).bind fun r=>(AL .add (V.str [3]) r.1).bind fun t8=>(AL .add t8 t1).bind fun t10=>(Cl 151 (AA h [t10]) []).bind fun a1=>(Cl 150 (AA h [a1.1]) []).bind fun a2=>(FQ P h 66 t4 a2.1).bind fun a1=>k a1
theorem AHy (t0 t1:V):Cl 91 [t0,t1] []=
 ABW [] fun a1 a2=>
  ABX t0 t1 a1 a2 fun a3=>
  (AZ a3 66 a1).bind fun a4=>AV 0 a3 a4:=
 Au (by kernel_rfl)
theorem AHz (t0:V):Cl 92 [t0] []=
 if((CG 85) t0&&V.under 0 t0)=true then jn (fun a1=>
 AV 0 [t0] a1) (fun(a2:V→Rv)=>(fA 86 3 0 (V.ref 0 [] 86)).bind fun a3=>(AZ [t0] 3 a3).bind fun a4=>(AL .geq a4 (V.int .i64 0)).bind fun a5=>V.ite a5 ((fA 86 3 0 (V.ref 0 [] 86)).bind fun a6=>(AZ [t0] 3 a6).bind fun a7=>(AL .lss a7 (V.int .i64 64)).bind fun a8=>V.ite a8 ((fA 86 2 1 (V.ref 0 [] 86)).bind fun a9=>(AZ [t0] 2 a9).bind fun a10=>(Cl 108 (AA [t0] [a10]) []).bind fun a11=>(un .not a11.1).bind fun a12=>V.ite a12 ((fA 86 2 4 (V.ref 0 [] 86)).bind fun a13=>(AZ [t0] 2 a13).bind fun a14=>(Cl 108 (AA [t0] [a14]) []).bind fun a15=>(un .not a15.1).bind fun a16=>V.ite a16 ((fA 86 4 3 (V.ref 0 [] 86)).bind fun a17=>(AZ [t0] 4 a17).bind fun a18=>V.ite a18 (a2 (V.bool true)) ((fA 86 2 4 (V.ref 0 [] 86)).bind fun a19=>(AZ [t0] 2 a19).bind fun a20=>(AL .eql a20 (V.int .i64 0)).bind fun a21=>a2 a21)) (a2 (V.bool false))) (a2 (V.bool false))) (a2 (V.bool false))) (a2 (V.bool false)))else none:=
 Au (by kernel_rfl)
theorem ABY (t0:V):Cl 93 [t0] []=
 (AL .geq t0 (V.int .i64 0)).bind fun a1=>V.ite a1
  ((IJ .u64 t0).bind fun a2=>(AL .mul (V.int .u64 2) a2).bind fun a3=>(Cl 72 (AA [] [a3]) []).bind fun a4=>AV 0 [] a4.1)
  ((AL .sub (V.int .i64 (-1)) t0).bind fun a5=>(IJ .u64 a5).bind fun a6=>(AL .mul (V.int .u64 2) a6).bind fun a7=>(AL .add a7 (V.int .u64 1)).bind fun a8=>(Cl 72 (AA [] [a8]) []).bind fun a9=>AV 0 [] a9.1):=
 Au (by kernel_rfl)
theorem AH0 (t0:V):Cl 94 [t0] []=
 V.ite t0
  (AV 0 [] (V.str [1]))
  (AV 0 [] (V.str [0])):=
 Au (by kernel_rfl)
def NK (t1 t3 t4:V) (h:List V):Rv:=lp W 95 0 (cd 95 151) (bk 0 (sk 95 0 31 (lv 95 0))) ⟨[(1,t1),(3,t3),(4,t4)],h⟩
def Rh (t1 t3 t4 t5 t6:V) (m0:Nat) (h:List V):Rv:=lp W 95 2 (cd 95 40087) (bk 2 (bk 1 (sk 95 0 919 (lk 95 0 m0 151 (bk 0 (sk 95 0 31 (lv 95 0))))))) ⟨[(1,t1),(3,t3),(4,t4),(5,t5),(6,t6)],h⟩
theorem QM (t1 t3 t4 t5 t6:V) (m0:Nat) (h:List V):Rh t1 t3 t4 t5 t6 m0 h=
 (AL .lss t6 t4).bind fun a12=>V.ite a12
  (jn (fun a13=>
 (AL .add t6 (V.int .i64 1)).bind fun a14=>Rh t1 a13 t4 t5 a14 m0 h) (fun(a15:V→Rv)=>V.ite t3 (a15 (V.bool true)) ((fA 24 22 1 t1).bind fun a16=>(DZ h 22 a16).bind fun a17=>(Gg 96 a17 t6).bind fun a18=>(fA 96 3 0 a18).bind fun a19=>(AZ h 3 a19).bind fun a20=>(fA 96 3 0 t5).bind fun a21=>(AZ h 3 a21).bind fun a22=>(AL .eql a20 a22).bind fun a23=>V.ite a23 ((fA 24 22 1 t1).bind fun a24=>(DZ h 22 a24).bind fun a25=>(Gg 96 a25 t6).bind fun a26=>(fA 96 3 1 a26).bind fun a27=>(AZ h 3 a27).bind fun a28=>(fA 96 3 1 t5).bind fun a29=>(AZ h 3 a29).bind fun a30=>(AL .eql a28 a30).bind fun a31=>a15 a31) (a15 (V.bool false)))))
  ((AL .add t4 (V.int .i64 1)).bind fun a32=>if Aa m0 [t1,t3,a32]=true then NK t1 t3 a32 (List.take m0 h)else none):=
 DK (by kernel_rfl)
theorem QN (t1 t3 t4:V) (h:List V):NK t1 t3 t4 h=
 (fA 24 22 1 t1).bind fun a2=>(DZ h 22 a2).bind fun a3=>(J8 a3).bind fun a4=>(AL .lss t4 a4).bind fun a5=>V.ite a5
  ((fA 24 22 1 t1).bind fun a6=>(DZ h 22 a6).bind fun a7=>(Gg 96 a7 t4).bind fun a8=>(AZ h 96 a8).bind fun a9=>(FT (CG 95) 96 (h++[(V.agg 95 [(V.int .i64 0),(V.int .i64 0),(V.int .i64 0)])]) (V.ref (List.length h) [] 96) a9).bind fun a10=>jn (fun a11=>
 V.ite a11
  (AV 0 a10 (V.int .i64 50))
  (Rh t1 t3 t4 (V.ref (List.length h) [] 96) (V.int .i64 0) (List.length h) a10)) (fun(a33:V→Rv)=>(fA 96 3 0 (V.ref (List.length h) [] 96)).bind fun a34=>(AZ a10 3 a34).bind fun a35=>(AL .lss a35 (V.int .i64 0)).bind fun a36=>V.ite a36 (a33 (V.bool true)) ((fA 96 3 0 (V.ref (List.length h) [] 96)).bind fun a37=>(AZ a10 3 a37).bind fun a38=>(fA 24 3 0 t1).bind fun a39=>(AZ a10 3 a39).bind fun a40=>(AL .geq a38 a40).bind fun a41=>V.ite a41 (a33 (V.bool true)) ((fA 96 3 1 (V.ref (List.length h) [] 96)).bind fun a42=>(AZ a10 3 a42).bind fun a43=>(AL .lss a43 (V.int .i64 0)).bind fun a44=>V.ite a44 (a33 (V.bool true)) ((fA 96 3 1 (V.ref (List.length h) [] 96)).bind fun a45=>(AZ a10 3 a45).bind fun a46=>(fA 24 3 0 t1).bind fun a47=>(AZ a10 3 a47).bind fun a48=>(AL .geq a46 a48).bind fun a49=>V.ite a49 (a33 (V.bool true)) ((fA 96 2 2 (V.ref (List.length h) [] 96)).bind fun a50=>(AZ a10 2 a50).bind fun a51=>(AL .lss a51 (V.int .i64 0)).bind fun a52=>V.ite a52 (a33 (V.bool true)) ((fA 96 2 2 (V.ref (List.length h) [] 96)).bind fun a53=>(AZ a10 2 a53).bind fun a54=>(AL .gtr a54 (V.int .i64 1048576)).bind fun a55=>a33 a55)))))))
  (V.ite t3
  (AV 0 h (V.int .i64 51))
  (AV 0 h (V.int .i64 0))):=
 DK (by kernel_rfl)
theorem Ri (t0:V):Cl 95 [t0] []=
 if((CG 23) (V.weak t0)&&V.under 0 (V.weak t0))=true then jn (fun a1=>
 V.ite a1
  (AV 0 [(V.weak t0)] (V.int .i64 50))
  (NK (V.ref 0 [] 24) (V.bool false) (V.int .i64 0) [(V.weak t0)])) (fun(a56:V→Rv)=>(fA 24 3 0 (V.ref 0 [] 24)).bind fun a57=>(AZ [(V.weak t0)] 3 a57).bind fun a58=>(AL .lss a58 (V.int .i64 1)).bind fun a59=>V.ite a59 (a56 (V.bool true)) ((fA 24 3 0 (V.ref 0 [] 24)).bind fun a60=>(AZ [(V.weak t0)] 3 a60).bind fun a61=>(AL .gtr a61 (V.int .i64 64)).bind fun a62=>V.ite a62 (a56 (V.bool true)) ((fA 24 22 1 (V.ref 0 [] 24)).bind fun a63=>(DZ [(V.weak t0)] 22 a63).bind fun a64=>(J8 a64).bind fun a65=>(AL .gtr a65 (V.int .i64 512)).bind fun a66=>a56 a66)))else none:=
 Au (by kernel_rfl)
theorem AH1 (t0:V):Cl 96 [t0] []=
 jn (fun a1=>
 AV 0 [] a1) (fun(a2:V→Rv)=>(AL .eql t0 (V.str [109,97,120])).bind fun a3=>V.ite a3 (a2 (V.bool true)) ((AL .eql t0 (V.str [108,97,98,101,108])).bind fun a4=>V.ite a4 (a2 (V.bool true)) ((AL .eql t0 (V.str [115,115,115,112])).bind fun a5=>V.ite a5 (a2 (V.bool true)) ((AL .eql t0 (V.str [98,102,115])).bind fun a6=>V.ite a6 (a2 (V.bool true)) ((AL .eql t0 (V.str [100,101,103,114,101,101])).bind fun a7=>V.ite a7 (a2 (V.bool true)) ((AL .eql t0 (V.str [114,97,110,107])).bind fun a8=>V.ite a8 (a2 (V.bool true)) ((AL .eql t0 (V.str [119,97,108,107,115])).bind fun a9=>a2 a9))))))):=
 Au (by kernel_rfl)
def JQ (t4 t5:V) (h:List V):Rv:=lp W 102 0 (cd 102 303) (bk 0 (sk 102 0 63 (lv 102 0))) ⟨[(4,t4),(5,t5)],h⟩
theorem Ir (t4 t5:V) (h:List V):JQ t4 t5 h=
 (J8 (V.weak t4)).bind fun a8=>(AL .lss t5 a8).bind fun a9=>V.ite a9
  ((AL .sub t5 (V.int .i64 1)).bind fun a10=>(Gg 96 (V.weak t4) a10).bind fun a11=>(AZ h 96 a11).bind fun a12=>(Gg 96 (V.weak t4) t5).bind fun a13=>(AZ h 96 a13).bind fun a14=>(Cl 158 (AA h [a12,a14]) []).bind fun a15=>(AL .eql a15.1 (V.int .i64 0)).bind fun a16=>V.ite a16
  (AV 0 h (V.int .i64 51))
  ((AL .add t5 (V.int .i64 1)).bind fun a17=>JQ t4 a17 h))
  (AV 0 h (V.int .i64 0)):=
 DK (by kernel_rfl)
theorem JR (t0:V):Cl 102 [t0] []=
 if((CG 23) (V.weak t0)&&V.under 0 (V.weak t0))=true then(if(List.all [(V.ref 0 [] 24)] V.capOk)=true then some (V.clo 154 [(V.ref 0 [] 24)])else none).bind fun a1=>jn (fun a2 a3=>
 V.ite a2
  (AV 0 a3 (V.int .i64 50))
  ((fA 24 22 1 (V.ref 0 [] 24)).bind fun a4=>(DZ a3 22 a4).bind fun a5=>(Cl 157 (AY [a5]) a3).bind fun a6=>(Cl 156 (AY [a6.1,(V.clo 158 [])]) a6.2).bind fun a7=>JQ a7.1 (V.int .i64 1) a7.2)) (fun(a18:V→List V→Rv)=>(fA 24 3 0 (V.ref 0 [] 24)).bind fun a19=>(AZ [(V.weak t0)] 3 a19).bind fun a20=>(AL .lss a20 (V.int .i64 1)).bind fun a21=>V.ite a21 (a18 (V.bool true) [(V.weak t0)]) ((fA 24 3 0 (V.ref 0 [] 24)).bind fun a22=>(AZ [(V.weak t0)] 3 a22).bind fun a23=>(AL .gtr a23 (V.int .i64 64)).bind fun a24=>V.ite a24 (a18 (V.bool true) [(V.weak t0)]) ((fA 24 22 1 (V.ref 0 [] 24)).bind fun a25=>(DZ [(V.weak t0)] 22 a25).bind fun a26=>(J8 a26).bind fun a27=>(AL .gtr a27 (V.int .i64 512)).bind fun a28=>V.ite a28 (a18 (V.bool true) [(V.weak t0)]) ((fA 24 22 1 (V.ref 0 [] 24)).bind fun a29=>(DZ [(V.weak t0)] 22 a29).bind fun a30=>(Cl 155 (AY [a30,a1]) [(V.weak t0)]).bind fun a31=>a18 a31.1 a31.2))))else none:=
 Au (by kernel_rfl)
theorem AD7 (t0:V):Cl 103 [t0] []=
 (Tq 9 false (ck [Xl (V.str [109,97,120]),Xl (V.str [108,97,98,101,108]),Xl (V.str [115,115,115,112]),Xl (V.str [98,102,115]),Xl (V.str [100,101,103,114,101,101]),Xl (V.str [114,97,110,107]),Xl (V.str [119,97,108,107,115])] [(V.str [109,97,120]),(V.str [108,97,98,101,108]),(V.str [115,115,115,112]),(V.str [98,102,115]),(V.str [100,101,103,114,101,101]),(V.str [114,97,110,107]),(V.str [119,97,108,107,115])])).bind fun a1=>(Cl 159 (AA [] [a1,t0]) []).bind fun a2=>AV 0 [] a2.1:=
 Au (by kernel_rfl)
theorem AD8 (t0 t1:V):Cl 104 [t0,t1] []=
 jn (fun a1=>
 AV 0 [] a1) (fun(a2:V→Rv)=>(AL .geq t0 (V.int .i64 1)).bind fun a3=>V.ite a3 ((AL .leq t0 (V.int .i64 64)).bind fun a4=>V.ite a4 ((AL .geq t1 (V.int .i64 1)).bind fun a5=>V.ite a5 ((AL .leq t1 (V.int .i64 64)).bind fun a6=>a2 a6) (a2 (V.bool false))) (a2 (V.bool false))) (a2 (V.bool false))):=
 Au (by kernel_rfl)
theorem AD9 (t0 t1 t2:V) (h:List V):Cl 105 [t0,t1,t2] h=
 (AZ h 3 t1).bind fun a1=>(Cl 106 (AA h [t0,a1]) []).bind fun a2=>(AZ h 3 t2).bind fun a3=>(AL .eql a2.1 a3).bind fun a4=>AV (List.length h) h a4:=
 Au (by kernel_rfl)
theorem AEA (t0 t1:V):Cl 106 [t0,t1] []=
 jn (fun a1=>
 V.ite a1
  (AV 0 [] (V.int .i64 (-1)))
  ((IJ .u32 t0).bind fun a2=>(Cl 160 (AA [] [a2]) []).bind fun a3=>(IJ .u32 t1).bind fun a4=>(AL .rem a3.1 a4).bind fun a5=>(IJ .i64 a5).bind fun a6=>AV 0 [] a6)) (fun(a7:V→Rv)=>(AL .lss t0 (V.int .i64 0)).bind fun a8=>V.ite a8 (a7 (V.bool true)) ((AL .lss t1 (V.int .i64 1)).bind fun a9=>V.ite a9 (a7 (V.bool true)) ((AL .gtr t1 (V.int .i64 64)).bind fun a10=>a7 a10))):=
 Au (by kernel_rfl)
theorem AEB (t0:V):Cl 108 [t0] []=
 jn (fun a1=>
 AV 0 [] a1) (fun(a2:V→Rv)=>(AL .gtr t0 (V.int .i64 1125899906842624)).bind fun a3=>V.ite a3 (a2 (V.bool true)) ((AL .lss t0 (V.int .i64 (-1125899906842624))).bind fun a4=>a2 a4)):=
 Au (by kernel_rfl)
theorem F5 (t0:V):Cl 128 [t0] []=
 if((CG 85) t0&&V.under 0 t0)=true then jn (fun a1=>
 V.ite a1
  (AV 0 [t0] (V.int .i64 100))
  (AV 0 [t0] (V.int .i64 0))) (fun(a2:V→Rv)=>(fA 86 3 0 (V.ref 0 [] 86)).bind fun a3=>(AZ [t0] 3 a3).bind fun a4=>(AL .lss a4 (V.int .i64 0)).bind fun a5=>V.ite a5 (a2 (V.bool true)) ((fA 86 3 0 (V.ref 0 [] 86)).bind fun a6=>(AZ [t0] 3 a6).bind fun a7=>(AL .geq a7 (V.int .i64 64)).bind fun a8=>V.ite a8 (a2 (V.bool true)) ((fA 86 2 1 (V.ref 0 [] 86)).bind fun a9=>(AZ [t0] 2 a9).bind fun a10=>(Cl 175 (AA [t0] [a10]) []).bind fun a11=>V.ite a11.1 (a2 (V.bool true)) ((fA 86 2 4 (V.ref 0 [] 86)).bind fun a12=>(AZ [t0] 2 a12).bind fun a13=>(Cl 175 (AA [t0] [a13]) []).bind fun a14=>V.ite a14.1 (a2 (V.bool true)) ((fA 86 4 3 (V.ref 0 [] 86)).bind fun a15=>(AZ [t0] 4 a15).bind fun a16=>(un .not a16).bind fun a17=>V.ite a17 ((fA 86 2 4 (V.ref 0 [] 86)).bind fun a18=>(AZ [t0] 2 a18).bind fun a19=>(AL .neq a19 (V.int .i64 0)).bind fun a20=>a2 a20) (a2 (V.bool false)))))))else none:=
 Au (by kernel_rfl)
def Xq (t0 t1:V) (h:List V) (k:List V→Rv):Rv:=
 (conv P h 2 132 t1).bind fun t6=>(AL .shl t6 (V.int .u64 1)).bind fun t7=>(AL .shr t1 (V.int .u64 63)).bind fun t9=>(conv P h 2 132 t9).bind fun t10=>(AL .xor t7 t10).bind fun t11=>(Cl 69 (AY [t0,t11]) h).bind fun r=>k r.2
theorem AEC (t0 t1:V) (h:List V):Cl 129 [t0,t1] h=
 Xq t0 t1 h fun a1=>
  if(List.all [] V.okE)=true then AV (List.length h) a1 (V.tup [])else none:=
 Au (by kernel_rfl)
theorem AED (t0:V):Cl 130 [t0] []=
 V.ite t0
  (AV 0 [] (V.int .u64 1))
  (AV 0 [] (V.int .u64 0)):=
 Au (by kernel_rfl)
def Ls (t0 t3:V):Rv:=lp W 132 0 (cd 132 71) (bk 0 (sk 132 0 31 (lv 132 0))) ⟨[(0,t0),(3,t3)],[]⟩
theorem WV (t0 t3:V):Ls t0 t3=
 (AL .sub t0 t3).bind fun a2=>(AL .lss t3 a2).bind fun a3=>V.ite a3
  ((AL .mul t3 (V.int .i64 2)).bind fun a4=>Ls t0 a4)
  (AV 0 [] t3):=
 DK (by kernel_rfl)
theorem AEE (t0:V):Cl 132 [t0] []=
 (AL .lss t0 (V.int .i64 2)).bind fun a1=>V.ite a1
  (AV 0 [] (V.int .i64 0))
  (Ls t0 (V.int .i64 1)):=
 Au (by kernel_rfl)
theorem Xr (t0:V):Cl 133 [t0] []=
 (J8 (V.weak t0)).bind fun a1=>(AL .eql a1 (V.int .i64 0)).bind fun a2=>V.ite a2
  ((Tq 5 false (ck [(Pv .u8) (V.int .u8 2)] [(V.int .u8 2)])).bind fun a3=>(Tq 172 true (ck [(Xm 5) a3] [(V.weak a3)])).bind fun a4=>(Cl 176 (AA [(V.agg 65 (List.replicate 32 (V.int .u8 0)))] [a4]) []).bind fun a5=>(FT (CG 65) 66 [(V.agg 65 (List.replicate 32 (V.int .u8 0)))] (V.ref 0 [] 66) a5.1).bind fun a6=>(AZ a6 66 (V.ref 0 [] 66)).bind fun a7=>AV 0 a6 a7)
  ((AL .eql a1 (V.int .i64 1)).bind fun a8=>V.ite a8
  ((Gg 9 t0 (V.int .i64 0)).bind fun a9=>(AZ [(V.agg 65 (List.replicate 32 (V.int .u8 0)))] 9 a9).bind fun a10=>(Cl 177 (AA [(V.agg 65 (List.replicate 32 (V.int .u8 0)))] [a10]) []).bind fun a11=>(FT (CG 65) 66 [(V.agg 65 (List.replicate 32 (V.int .u8 0)))] (V.ref 0 [] 66) a11.1).bind fun a12=>(AZ a12 66 (V.ref 0 [] 66)).bind fun a13=>AV 0 a12 a13)
  ((J8 (V.weak t0)).bind fun a14=>(Cl 132 (AA [(V.agg 65 (List.replicate 32 (V.int .u8 0)))] [a14]) []).bind fun a15=>(slL 9 (V.weak t0) none (some a15.1) (some a15.1)).bind fun a16=>(Cl 133 (AA [(V.agg 65 (List.replicate 32 (V.int .u8 0)))] [a16]) []).bind fun a17=>(slL 9 (V.weak t0) (some a15.1) none none).bind fun a18=>(Cl 133 (AA [(V.agg 65 (List.replicate 32 (V.int .u8 0)))] [a18]) []).bind fun a19=>(Cl 178 (AA [(V.agg 65 (List.replicate 32 (V.int .u8 0)))] [a17.1,a19.1]) []).bind fun a20=>(FT (CG 65) 66 [(V.agg 65 (List.replicate 32 (V.int .u8 0)))] (V.ref 0 [] 66) a20.1).bind fun a21=>(AZ a21 66 (V.ref 0 [] 66)).bind fun a22=>AV 0 a21 a22)):=
 Au (by kernel_rfl)
def Lu (t0 t3:V):Rv:=lp W 134 0 (cd 134 35) (bk 0 (sk 134 0 15 (lv 134 0))) ⟨[(0,t0),(3,t3)],[]⟩
theorem WW (t0 t3:V):Lu t0 t3=
 (AL .mul (V.int .i64 2) t3).bind fun a1=>(AL .lss a1 t0).bind fun a2=>V.ite a2
  ((AL .mul (V.int .i64 2) t3).bind fun a3=>Lu t0 a3)
  (AV 0 [] t3):=
 DK (by kernel_rfl)
theorem AEF (t0:V):Cl 134 [t0] []=
 Lu t0 (V.int .i64 1):=
 Au (by kernel_rfl)
theorem Xt (t0:V):Cl 142 [t0] []=
 (J8 (V.weak t0)).bind fun a1=>(AL .eql a1 (V.int .i64 0)).bind fun a2=>V.ite a2
  ((Cl 151 (AA [] [(V.str [2])]) []).bind fun a3=>AV 0 [] a3.1)
  ((J8 (V.weak t0)).bind fun a4=>(AL .eql a4 (V.int .i64 1)).bind fun a5=>V.ite a5
  ((Gg 9 t0 (V.int .i64 0)).bind fun a6=>(AZ [] 9 a6).bind fun a7=>(Cl 148 (AA [] [a7]) []).bind fun a8=>AV 0 [] a8.1)
  ((J8 (V.weak t0)).bind fun a9=>(Cl 134 (AA [] [a9]) []).bind fun a10=>(slL 9 (V.weak t0) none (some a10.1) none).bind fun a11=>(Cl 142 (AA [] [a11]) []).bind fun a12=>(slL 9 (V.weak t0) (some a10.1) none none).bind fun a13=>(Cl 142 (AA [] [a13]) []).bind fun a14=>(Cl 149 (AA [] [a12.1,a14.1]) []).bind fun a15=>AV 0 [] a15.1)):=
 Au (by kernel_rfl)
theorem AEG (t0:V):Cl 143 [t0] []=
 (IJ .u64 t0).bind fun a1=>(AL .mul a1 (V.int .u64 2654435761)).bind fun a2=>(AL .rem a2 (V.int .u64 4294967296)).bind fun a3=>(AL .quo a3 (V.int .u64 32768)).bind fun a4=>(AL .xor a3 a4).bind fun a5=>(AL .mul a5 (V.int .u64 2246822519)).bind fun a6=>(AL .rem a6 (V.int .u64 4294967296)).bind fun a7=>(AL .quo a7 (V.int .u64 8192)).bind fun a8=>(AL .xor a7 a8).bind fun a9=>(IJ .u32 a9).bind fun a10=>AV 0 [] a10:=
 Au (by kernel_rfl)
def Xu (t1:V) (h:List V) (k:V→V→List V→Rv):Rv:=
 if(Bd P 66 t1&&V.under (List.length h) t1)=true then k (V.ref (List.length h) [] 66) (V.ref (List.length (h++[t1])) [] 66) ((h++[t1])++[zero P 66])else none
def Xv (h:List V) (k:V→List V→Rv):Rv:=
 (Cl 68 (AY []) h).bind fun r=>k r.1 r.2
def Xw (t0 t5:V) (h:List V) (k:List V→Rv):Rv:=
 (conv P h 3 132 t0).bind fun t9=>(Cl 69 (AY [t5,t9]) h).bind fun r=>k r.2
def Xx (t3 t4 t5:V) (h:List V) (k:List V→Rv):Rv:=
 (Be P 172 1 [(0,(V.int .u8 3))]).bind fun t11=>(Cl 71 (AY [t5]) h).bind fun r=>(conv P r.2 9 172 r.1).bind fun t14=>(Kw P 66 t3 none none none).bind fun t15=>(Be P 245 3 [(0,t11),(1,t14),(2,t15)]).bind fun t16=>(Cl 176 (AA r.2 [t16]) []).bind fun a1=>(FQ P r.2 66 t4 a1.1).bind fun a1=>k a1
theorem AEH (t0 t1:V):Cl 146 [t0,t1] []=
 Xu t1 [] fun a1 a2 a3=>
  Xv a3 fun a4 a5=>
  Xw t0 a4 a5 fun a6=>
  Xx a1 a2 a4 a6 fun a7=>
  (AZ a7 66 a2).bind fun a8=>AV 0 a7 a8:=
 Au (by kernel_rfl)
def Xy (k:Rv):Rv:=
 k
def Xz (t0:V) (k:V→Rv):Rv:=
 (AL .add (V.str [0]) t0).bind fun t4=>(Cl 151 (AA [] [t4]) []).bind fun r=>k r.1
theorem AEI (t0:V):Cl 148 [t0] []=
 Xy (Xz t0 fun a1=>
  AV 0 [] a1):=
 Au (by kernel_rfl)
theorem AEJ (t0 t1:V):Cl 149 [t0,t1] []=
 (AL .add (V.str [1]) t0).bind fun a1=>(AL .add a1 t1).bind fun a2=>(Cl 151 (AA [] [a2]) []).bind fun a3=>AV 0 [] a3.1:=
 Au (by kernel_rfl)
def X0 (h:List V) (k:V→List V→Rv):Rv:=
 k (V.ref (List.length h) [] 66) (h++[zero P 66])
def X3 (h:List V) (k:V→List V→Rv):Rv:=
 (bld P 66 []).bind fun t5=>(FQ P (h++[zero P 66]) 66 (V.ref (List.length h) [] 66) t5).bind fun a1=>k (V.ref (List.length h) [] 66) a1
def X4 (k:V→Rv):Rv:=
 k (V.int .i64 0)
def L6 (t0 t2 t3 t4:V) (h:List V):Rv:=lp W 150 0 (cd 150 75) (bk 0 (sk 150 0 15 (lv 150 0))) ⟨[(0,t0),(2,t2),(3,t3),(4,t4)],h⟩
def Rj (t0 t4:V) (k:V→Rv):Rv:=
 (AL .lss t4 (V.int .i64 32)).bind fun t7=>V.ite t7 ((lenV P 9 t0).bind fun t11=>(AL .lss t4 t11).bind fun t12=>k t12) (k (V.bool false))
def X5 (t0 t3 t4:V) (h:List V) (k:List V→Rv):Rv:=
 (Fz P 9 t0 t4).bind fun t19=>(AP P 66 t3 t4).bind fun t20=>(FQ P h 5 t20 t19).bind fun a1=>k a1
def X6 (t4:V) (k:V→Rv):Rv:=
 (AL .add t4 (V.int .i64 1)).bind fun t15=>k t15
def X7 (t2 t3:V) (h:List V) (k:List V→Rv):Rv:=
 (AZ h 66 t3).bind fun t21=>(FQ P h 66 t2 t21).bind fun a1=>k a1
theorem NM (t0 t2 t3 t4:V) (h:List V):L6 t0 t2 t3 t4 h=
 Rj t0 t4 fun a6=>
  V.ite a6
  (X5 t0 t3 t4 h fun a7=>
  X6 t4 fun a8=>
  L6 t0 t2 t3 a8 a7)
  (X7 t2 t3 h fun a9=>
  (AZ a9 66 t2).bind fun a10=>AV 0 a9 a10):=
 DK (by kernel_rfl)
theorem AEK (t0:V):Cl 150 [t0] []=
 X0 [] fun a1 a2=>
  X3 a2 fun a3 a4=>
  X4 fun a5=>
  L6 t0 a1 a3 a5 a4:=
 Au (by kernel_rfl)
def X8 (k:Rv):Rv:=
 k
def X9 (t0:V) (h:List V) (k:V→Rv):Rv:=
 (conv P h 9 172 t0).bind fun t26=>(Be P 172 1 [(0,(V.int .u8 128))]).bind fun t27=>(Dn P 172 h t26 t27).bind fun t28=>k t28
def L8 (t0 t3:V) (h:List V):Rv:=lp W 151 0 (cd 151 35) (bk 0 (sk 151 0 15 (lv 151 0))) ⟨[(0,t0),(3,t3)],h⟩
def Rk (t3:V) (k:V→Rv):Rv:=
 (lenV P 172 (V.weak t3)).bind fun t30=>(AL .rem t30 (V.int .i64 64)).bind fun t31=>(AL .neq t31 (V.int .i64 56)).bind fun t32=>k t32
def YA (t3:V) (h:List V) (k:V→Rv):Rv:=
 (Be P 172 1 [(0,(V.int .u8 0))]).bind fun t34=>(Dn P 172 h t3 t34).bind fun t35=>k t35
def YB (t0:V) (h:List V) (k:V→Rv):Rv:=
 (lenV P 9 t0).bind fun t37=>(AL .mul (V.int .i64 8) t37).bind fun t38=>(conv P h 3 132 t38).bind fun t39=>k t39
def YC (k:V→Rv):Rv:=
 k (V.int .i64 7)
def L9 (t3 t4 t5:V) (h:List V):Rv:=lp W 151 2 (cd 151 303) (bk 2 (sk 151 0 63 (lv 151 0))) ⟨[(3,t3),(4,t4),(5,t5)],h⟩
def Rl (t5:V) (k:V→Rv):Rv:=
 (AL .geq t5 (V.int .i64 0)).bind fun t41=>k t41
def YD (t3 t4 t5:V) (h:List V) (k:V→Rv):Rv:=
 (AL .mul (V.int .i64 8) t5).bind fun t47=>(Cl 179 (AA h [t47]) []).bind fun r=>(AL .quo t4 r.1).bind fun t49=>(AL .rem t49 (V.int .u64 256)).bind fun t50=>(conv P h 132 5 t50).bind fun t51=>(Be P 172 1 [(0,t51)]).bind fun t52=>(Dn P 172 h t3 t52).bind fun t53=>k t53
def YE (t5:V) (k:V→Rv):Rv:=
 (AL .sub t5 (V.int .i64 1)).bind fun t43=>k t43
def YF (h:List V) (k:V→Rv):Rv:=
 (Cl 180 (AA h []) []).bind fun r=>k r.1
def Tv (h:List V) (k:V→List V→Rv):Rv:=
 (Be P 231 8 [(0,(V.int .u64 1779033703)),(1,(V.int .u64 3144134277)),(2,(V.int .u64 1013904242)),(3,(V.int .u64 2773480762)),(4,(V.int .u64 1359893119)),(5,(V.int .u64 2600822924)),(6,(V.int .u64 528734635)),(7,(V.int .u64 1541459225))]).bind fun v=>(C9 h v).bind fun r=>k r.1 r.2
def Tz (k:V→Rv):Rv:=
 k (V.int .i64 0)
def D6 (t3 t6 t7 t8:V) (h:List V):Rv:=lp W 151 4 (cd 151 2431) (bk 4 (sk 151 0 511 (lv 151 0))) ⟨[(3,t3),(6,t6),(7,t7),(8,t8)],h⟩
def NP (t3 t8:V) (k:V→Rv):Rv:=
 (lenV P 172 (V.weak t3)).bind fun t58=>(AL .lss t8 t58).bind fun t59=>k t59
def UA (k:V→Rv):Rv:=
 (Be P 231 0 []).bind fun t62=>k t62
def UB (k:V→Rv):Rv:=
 k (V.int .i64 0)
def Hr (t3 t6 t7 t8 t9 t10:V) (m4:Nat) (h:List V):Rv:=lp W 151 6 (cd 151 608639) (bk 6 (sk 151 5 117119 (bk 5 (sk 151 4 14719 (lk 151 4 m4 2431 (bk 4 (sk 151 0 511 (lv 151 0)))))))) ⟨[(3,t3),(6,t6),(7,t7),(8,t8),(9,t9),(10,t10)],h⟩
def JS (t10:V) (k:V→Rv):Rv:=
 (AL .lss t10 (V.int .i64 64)).bind fun t64=>k t64
def NQ (t10:V) (k:V→Rv):Rv:=
 (AL .lss t10 (V.int .i64 16)).bind fun t68=>k t68
def UC (t3 t8 t10:V) (k:V→Rv):Rv:=
 (AL .mul (V.int .i64 4) t10).bind fun t72=>(AL .add t8 t72).bind fun t73=>(AL .mul (V.int .i64 4) t10).bind fun t76=>(AL .add t8 t76).bind fun t77=>(AL .add t77 (V.int .i64 4)).bind fun t78=>(Kw P 172 (V.weak t3) (some t73) (some t78) none).bind fun t79=>k t79
def NR (t9 t11:V) (h:List V) (k:V→Rv):Rv:=
 (AP P 172 (V.weak t11) (V.int .i64 0)).bind fun t82=>(AZ h 5 t82).bind fun t83=>(conv P h 5 132 t83).bind fun t84=>(AL .mul t84 (V.int .u64 16777216)).bind fun t85=>(AP P 172 (V.weak t11) (V.int .i64 1)).bind fun t87=>(AZ h 5 t87).bind fun t88=>(conv P h 5 132 t88).bind fun t89=>(AL .mul t89 (V.int .u64 65536)).bind fun t90=>(AL .add t85 t90).bind fun t91=>(AP P 172 (V.weak t11) (V.int .i64 2)).bind fun t93=>(AZ h 5 t93).bind fun t94=>(conv P h 5 132 t94).bind fun t95=>(AL .mul t95 (V.int .u64 256)).bind fun t96=>(AL .add t91 t96).bind fun t97=>(AP P 172 (V.weak t11) (V.int .i64 3)).bind fun t99=>(AZ h 5 t99).bind fun t100=>(conv P h 5 132 t100).bind fun t101=>(AL .add t97 t101).bind fun t102=>(Be P 231 1 [(0,t102)]).bind fun t103=>(Dn P 231 h t9 t103).bind fun t104=>k t104
def JU (t10:V) (k:V→Rv):Rv:=
 (AL .add t10 (V.int .i64 1)).bind fun t66=>k t66
def NS (t9 t10:V) (h:List V) (k:V→V→Rv):Rv:=
 (AL .sub t10 (V.int .i64 15)).bind fun t107=>(AP P 231 (V.weak t9) t107).bind fun t108=>(AZ h 132 t108).bind fun t109=>(AL .sub t10 (V.int .i64 2)).bind fun t112=>(AP P 231 (V.weak t9) t112).bind fun t113=>(AZ h 132 t113).bind fun t114=>k t109 t114
def NT (t9 t10 t12 t13:V) (h:List V) (k:V→Rv):Rv:=
 (AL .sub t10 (V.int .i64 16)).bind fun t118=>(AP P 231 (V.weak (V.weak t9)) t118).bind fun t119=>(AZ h 132 t119).bind fun t120=>(AL .sub t10 (V.int .i64 7)).bind fun t123=>(AP P 231 (V.weak (V.weak t9)) t123).bind fun t124=>(AZ h 132 t124).bind fun t125=>(AL .add t120 t125).bind fun t126=>(Cl 182 (AA h [t12,(V.int .i64 7)]) []).bind fun r=>(Cl 182 (AA h [t12,(V.int .i64 18)]) []).bind fun a1=>(AL .xor r.1 a1.1).bind fun t131=>(AL .quo t12 (V.int .u64 8)).bind fun t133=>(AL .xor t131 t133).bind fun t134=>(AL .add t126 t134).bind fun t135=>(Cl 182 (AA h [t13,(V.int .i64 17)]) []).bind fun a2=>(Cl 182 (AA h [t13,(V.int .i64 19)]) []).bind fun a3=>(AL .xor a2.1 a3.1).bind fun t140=>(AL .quo t13 (V.int .u64 1024)).bind fun t142=>(AL .xor t140 t142).bind fun t143=>(AL .add t135 t143).bind fun t144=>(Cl 181 (AA h [t144]) []).bind fun a4=>(Be P 231 1 [(0,a4.1)]).bind fun t146=>(Dn P 231 h t9 t146).bind fun t147=>k t147
def NU (t7:V) (h:List V) (k:V→Rv):Rv:=
 (Be P 231 0 []).bind fun t148=>(Dn P 231 h t148 (V.weak t7)).bind fun t150=>k t150
def UD (k:V→Rv):Rv:=
 k (V.int .i64 0)
def MB (t3 t6 t7 t8 t9 t14 t15:V) (m4:Nat) (h:List V):Rv:=lp W 151 8 (cd 151 2476415) (bk 8 (sk 151 5 510335 (bk 5 (sk 151 4 14719 (lk 151 4 m4 2431 (bk 4 (sk 151 0 511 (lv 151 0)))))))) ⟨[(3,t3),(6,t6),(7,t7),(8,t8),(9,t9),(14,t14),(15,t15)],h⟩
def NV (t15:V) (k:V→Rv):Rv:=
 (AL .lss t15 (V.int .i64 64)).bind fun t152=>k t152
def NW (t14:V) (h:List V) (k:V→V→Rv):Rv:=
 (AP P 231 (V.weak t14) (V.int .i64 0)).bind fun t156=>(AZ h 132 t156).bind fun t157=>(AP P 231 (V.weak t14) (V.int .i64 4)).bind fun t159=>(AZ h 132 t159).bind fun t160=>k t157 t160
def NY (t14 t17:V) (h:List V) (k:V→Rv):Rv:=
 (AP P 231 (V.weak t14) (V.int .i64 5)).bind fun t163=>(AZ h 132 t163).bind fun t164=>(AL .and t17 t164).bind fun t165=>(AL .sub (V.int .u64 4294967295) t17).bind fun t167=>(AP P 231 (V.weak t14) (V.int .i64 6)).bind fun t169=>(AZ h 132 t169).bind fun t170=>(AL .and t167 t170).bind fun t171=>(AL .xor t165 t171).bind fun t172=>k t172
def NZ (t14 t16:V) (h:List V) (k:V→Rv):Rv:=
 (AP P 231 (V.weak t14) (V.int .i64 1)).bind fun t175=>(AZ h 132 t175).bind fun t176=>(AL .and t16 t176).bind fun t177=>(AP P 231 (V.weak t14) (V.int .i64 2)).bind fun t180=>(AZ h 132 t180).bind fun t181=>(AL .and t16 t181).bind fun t182=>(AL .xor t177 t182).bind fun t183=>(AP P 231 (V.weak t14) (V.int .i64 1)).bind fun t185=>(AZ h 132 t185).bind fun t186=>(AP P 231 (V.weak t14) (V.int .i64 2)).bind fun t188=>(AZ h 132 t188).bind fun t189=>(AL .and t186 t189).bind fun t190=>(AL .xor t183 t190).bind fun t191=>k t191
def Na (t6 t9 t14 t15 t17 t18:V) (h:List V) (k:V→Rv):Rv:=
 (AP P 231 (V.weak t14) (V.int .i64 7)).bind fun t193=>(AZ h 132 t193).bind fun t194=>(Cl 182 (AA h [t17,(V.int .i64 6)]) []).bind fun r=>(Cl 182 (AA h [t17,(V.int .i64 11)]) []).bind fun a1=>(AL .xor r.1 a1.1).bind fun t199=>(Cl 182 (AA h [t17,(V.int .i64 25)]) []).bind fun a2=>(AL .xor t199 a2.1).bind fun t202=>(AL .add t194 t202).bind fun t203=>(AL .add t203 t18).bind fun t205=>(AP P 231 (V.weak t6) t15).bind fun t208=>(AZ h 132 t208).bind fun t209=>(AL .add t205 t209).bind fun t210=>(AP P 231 (V.weak t9) t15).bind fun t213=>(AZ h 132 t213).bind fun t214=>(AL .add t210 t214).bind fun t215=>k t215
def Nb (t16 t19:V) (h:List V) (k:V→Rv):Rv:=
 (Cl 182 (AA h [t16,(V.int .i64 2)]) []).bind fun r=>(Cl 182 (AA h [t16,(V.int .i64 13)]) []).bind fun a1=>(AL .xor r.1 a1.1).bind fun t220=>(Cl 182 (AA h [t16,(V.int .i64 22)]) []).bind fun a2=>(AL .xor t220 a2.1).bind fun t223=>(AL .add t223 t19).bind fun t225=>k t225
def Nc (t14 t16 t17 t20 t21:V) (h:List V) (k:V→Rv):Rv:=
 (AL .add t20 t21).bind fun t228=>(Cl 181 (AA h [t228]) []).bind fun r=>(AP P 231 (V.weak t14) (V.int .i64 1)).bind fun t232=>(AZ h 132 t232).bind fun t233=>(AP P 231 (V.weak t14) (V.int .i64 2)).bind fun t235=>(AZ h 132 t235).bind fun t236=>(AP P 231 (V.weak t14) (V.int .i64 3)).bind fun t238=>(AZ h 132 t238).bind fun t239=>(AL .add t239 t20).bind fun t241=>(Cl 181 (AA h [t241]) []).bind fun a1=>(AP P 231 (V.weak t14) (V.int .i64 5)).bind fun t245=>(AZ h 132 t245).bind fun t246=>(AP P 231 (V.weak t14) (V.int .i64 6)).bind fun t248=>(AZ h 132 t248).bind fun t249=>(Be P 231 8 [(0,r.1),(1,t16),(2,t233),(3,t236),(4,a1.1),(5,t17),(6,t246),(7,t249)]).bind fun t250=>k t250
def UE (t15:V) (k:V→Rv):Rv:=
 (AL .add t15 (V.int .i64 1)).bind fun t154=>k t154
def UF (k:V→Rv):Rv:=
 k (V.int .i64 0)
def JV (t3 t6 t7 t8 t14 t22:V) (m4:Nat) (h:List V):Rv:=lp W 151 10 (cd 151 2607487) (bk 10 (bk 5 (sk 151 4 14719 (lk 151 4 m4 2431 (bk 4 (sk 151 0 511 (lv 151 0))))))) ⟨[(3,t3),(6,t6),(7,t7),(8,t8),(14,t14),(22,t22)],h⟩
def Nh (t22:V) (k:V→Rv):Rv:=
 (AL .lss t22 (V.int .i64 8)).bind fun t252=>k t252
def UG (t7 t14 t22:V) (h:List V) (k:List V→Rv):Rv:=
 (AP P 231 (V.weak t7) t22).bind fun t259=>(AZ h 132 t259).bind fun t260=>(AP P 231 (V.weak t14) t22).bind fun t263=>(AZ h 132 t263).bind fun t264=>(AL .add t260 t264).bind fun t265=>(Cl 181 (AA h [t265]) []).bind fun r=>(AP P 231 (V.weak t7) t22).bind fun t267=>(FQ P h 132 t267 r.1).bind fun a1=>k a1
def UH (t22:V) (k:V→Rv):Rv:=
 (AL .add t22 (V.int .i64 1)).bind fun t254=>k t254
def UI (t8:V) (k:V→Rv):Rv:=
 (AL .add t8 (V.int .i64 64)).bind fun t61=>k t61
theorem LD (t3 t6 t7 t8 t14 t22:V) (m4:Nat) (h:List V):JV t3 t6 t7 t8 t14 t22 m4 h=
 Nh t22 fun a37=>
  V.ite a37
  (UG t7 t14 t22 h fun a38=>
  UH t22 fun a39=>
  JV t3 t6 t7 t8 t14 a39 m4 a38)
  (UI t8 fun a40=>
  D6 t3 t6 t7 a40 h):=
 DK (by kernel_rfl)
theorem Nj (t3 t6 t7 t8 t9 t14 t15:V) (m4:Nat) (h:List V):MB t3 t6 t7 t8 t9 t14 t15 m4 h=
 NV t15 fun a27=>
  V.ite a27
  (NW t14 h fun a28 a29=>
  NY t14 a29 h fun a30=>
  NZ t14 a28 h fun a31=>
  Na t6 t9 t14 t15 a29 a30 h fun a32=>
  Nb a28 a31 h fun a33=>
  Nc t14 a28 a29 a32 a33 h fun a34=>
  UE t15 fun a35=>
  MB t3 t6 t7 t8 t9 a34 a35 m4 h)
  (UF fun a36=>
  JV t3 t6 t7 t8 t14 a36 m4 h):=
 DK (by kernel_rfl)
theorem Iu (t3 t6 t7 t8 t9 t10:V) (m4:Nat) (h:List V):Hr t3 t6 t7 t8 t9 t10 m4 h=
 JS t10 fun a16=>
  V.ite a16
  (NQ t10 fun a17=>
  V.ite a17
  (UC t3 t8 t10 fun a18=>
  NR t9 a18 h fun a19=>
  JU t10 fun a20=>
  Hr t3 t6 t7 t8 a19 a20 m4 h)
  (NS t9 t10 h fun a21 a22=>
  NT t9 t10 a21 a22 h fun a23=>
  JU t10 fun a24=>
  Hr t3 t6 t7 t8 a23 a24 m4 h))
  (NU t7 h fun a25=>
  UD fun a26=>
  MB t3 t6 t7 t8 t9 a25 a26 m4 h):=
 DK (by kernel_rfl)
def UJ (k:V→Rv):Rv:=
 (Be P 172 0 []).bind fun t268=>k t268
def UK (k:V→Rv):Rv:=
 k (V.int .i64 0)
def JW (t7 t23 t24:V) (h:List V):Rv:=lp W 151 12 (cd 151 9727) (bk 12 (sk 151 0 2047 (lv 151 0))) ⟨[(7,t7),(23,t23),(24,t24)],h⟩
def Nk (t24:V) (k:V→Rv):Rv:=
 (AL .lss t24 (V.int .i64 8)).bind fun t270=>k t270
def Nl (t7 t23 t24:V) (h:List V) (k:V→Rv):Rv:=
 (AP P 231 (V.weak t7) t24).bind fun t276=>(AZ h 132 t276).bind fun t277=>(AL .quo t277 (V.int .u64 16777216)).bind fun t278=>(conv P h 132 5 t278).bind fun t279=>(AP P 231 (V.weak t7) t24).bind fun t282=>(AZ h 132 t282).bind fun t283=>(AL .quo t283 (V.int .u64 65536)).bind fun t284=>(AL .rem t284 (V.int .u64 256)).bind fun t285=>(conv P h 132 5 t285).bind fun t286=>(AP P 231 (V.weak t7) t24).bind fun t289=>(AZ h 132 t289).bind fun t290=>(AL .quo t290 (V.int .u64 256)).bind fun t291=>(AL .rem t291 (V.int .u64 256)).bind fun t292=>(conv P h 132 5 t292).bind fun t293=>(AP P 231 (V.weak t7) t24).bind fun t296=>(AZ h 132 t296).bind fun t297=>(AL .rem t297 (V.int .u64 256)).bind fun t298=>(conv P h 132 5 t298).bind fun t299=>(Be P 172 4 [(0,t279),(1,t286),(2,t293),(3,t299)]).bind fun t300=>(Dn P 172 h t23 t300).bind fun t301=>k t301
def UL (t24:V) (k:V→Rv):Rv:=
 (AL .add t24 (V.int .i64 1)).bind fun t272=>k t272
def UM (t23:V) (h:List V) (k:V→Rv):Rv:=
 (conv P h 172 9 t23).bind fun t303=>k t303
theorem LG (t7 t23 t24:V) (h:List V):JW t7 t23 t24 h=
 Nk t24 fun a43=>
  V.ite a43
  (Nl t7 t23 t24 h fun a44=>
  UL t24 fun a45=>
  JW t7 a44 a45 h)
  (UM t23 h fun a46=>
  AV 0 h a46):=
 DK (by kernel_rfl)
theorem Np (t3 t6 t7 t8:V) (h:List V):D6 t3 t6 t7 t8 h=
 NP t3 t8 fun a13=>
  V.ite a13
  (UA fun a14=>
  UB fun a15=>
  Hr t3 t6 t7 t8 a14 a15 (List.length h) h)
  (UJ fun a41=>
  UK fun a42=>
  JW t7 a41 a42 h):=
 DK (by kernel_rfl)
theorem Nq (t3 t4 t5:V) (h:List V):L9 t3 t4 t5 h=
 Rl t5 fun a6=>
  V.ite a6
  (YD t3 t4 t5 h fun a7=>
  YE t5 fun a8=>
  L9 a7 t4 a8 h)
  (YF h fun a9=>
  Tv h fun a10 a11=>
  Tz fun a12=>
  D6 t3 a9 a10 a12 a11):=
 DK (by kernel_rfl)
theorem Nr (t0 t3:V) (h:List V):L8 t0 t3 h=
 Rk t3 fun a2=>
  V.ite a2
  (YA t3 h fun a3=>
  L8 t0 a3 h)
  (YB t0 h fun a4=>
  YC fun a5=>
  L9 t3 a4 a5 h):=
 DK (by kernel_rfl)
theorem AEL (t0:V):Cl 151 [t0] []=
 X8 (X9 t0 [] fun a1=>
  L8 t0 a1 []):=
 Au (by kernel_rfl)
theorem AEM (t0 t1:V) (h:List V):Cl 154 [t0,t1] h=
 if((CG 95) t0&&V.under (List.length h) t0)=true then jn (fun a1=>
 AV (List.length h) (h++[t0]) a1) (fun(a2:V→Rv)=>(fA 96 3 0 (V.ref (List.length h) [] 96)).bind fun a3=>(AZ (h++[t0]) 3 a3).bind fun a4=>(AL .lss a4 (V.int .i64 0)).bind fun a5=>V.ite a5 (a2 (V.bool true)) ((fA 96 3 0 (V.ref (List.length h) [] 96)).bind fun a6=>(AZ (h++[t0]) 3 a6).bind fun a7=>(fA 24 3 0 t1).bind fun a8=>(AZ (h++[t0]) 3 a8).bind fun a9=>(AL .geq a7 a9).bind fun a10=>V.ite a10 (a2 (V.bool true)) ((fA 96 3 1 (V.ref (List.length h) [] 96)).bind fun a11=>(AZ (h++[t0]) 3 a11).bind fun a12=>(AL .lss a12 (V.int .i64 0)).bind fun a13=>V.ite a13 (a2 (V.bool true)) ((fA 96 3 1 (V.ref (List.length h) [] 96)).bind fun a14=>(AZ (h++[t0]) 3 a14).bind fun a15=>(fA 24 3 0 t1).bind fun a16=>(AZ (h++[t0]) 3 a16).bind fun a17=>(AL .geq a15 a17).bind fun a18=>V.ite a18 (a2 (V.bool true)) ((fA 96 2 2 (V.ref (List.length h) [] 96)).bind fun a19=>(AZ (h++[t0]) 2 a19).bind fun a20=>(AL .lss a20 (V.int .i64 0)).bind fun a21=>V.ite a21 (a2 (V.bool true)) ((fA 96 2 2 (V.ref (List.length h) [] 96)).bind fun a22=>(AZ (h++[t0]) 2 a22).bind fun a23=>(AL .gtr a23 (V.int .i64 1048576)).bind fun a24=>a2 a24))))))else none:=
 Au (by kernel_rfl)
theorem AEN (t0 t1:V) (h:List V):Cl 155 [t0,t1] h=
 (Cl 188 (AY [t0,t1]) h).bind fun a1=>(AL .geq a1.1 (V.int .i64 0)).bind fun a2=>AV (List.length h) a1.2 a2:=
 Au (by kernel_rfl)
theorem AEO (t0 t1:V) (h:List V):Cl 156 [t0,t1] h=
 (Cl 189 (AY [t0]) h).bind fun a1=>(aps 1000158 96 [(V.weak a1.1),t1] a1.2).bind fun a2=>AV (List.length h) a2.2 a1.1:=
 Au (by kernel_rfl)
theorem AEP (t0:V) (h:List V):Cl 157 [t0] h=
 if((Xm 96) (V.weak t0)&&V.under (List.length h) (V.weak t0))=true then(if(List.all [(V.ref (List.length h) [] 22)] V.capOk)=true then some (V.clo 191 [(V.ref (List.length h) [] 22)])else none).bind fun a1=>RP (h++[(V.weak t0)]) a1 else none:=
 Au (by kernel_rfl)
theorem AEQ (t0 t1:V):Cl 158 [t0,t1] []=
 if((CG 95) t0&&V.under 0 t0)=true then if((CG 95) t1&&V.under 1 t1)=true then(fA 96 3 0 (V.ref 0 [] 96)).bind fun a1=>(AZ [t0,t1] 3 a1).bind fun a2=>(fA 96 3 0 (V.ref 1 [] 96)).bind fun a3=>(AZ [t0,t1] 3 a3).bind fun a4=>(AL .neq a2 a4).bind fun a5=>V.ite a5
  ((fA 96 3 0 (V.ref 0 [] 96)).bind fun a6=>(AZ [t0,t1] 3 a6).bind fun a7=>(fA 96 3 0 (V.ref 1 [] 96)).bind fun a8=>(AZ [t0,t1] 3 a8).bind fun a9=>(AL .sub a7 a9).bind fun a10=>AV 0 [t0,t1] a10)
  ((fA 96 3 1 (V.ref 0 [] 96)).bind fun a11=>(AZ [t0,t1] 3 a11).bind fun a12=>(fA 96 3 1 (V.ref 1 [] 96)).bind fun a13=>(AZ [t0,t1] 3 a13).bind fun a14=>(AL .sub a12 a14).bind fun a15=>AV 0 [t0,t1] a15)else none else none:=
 Au (by kernel_rfl)
theorem AER (t0 t1:V):Cl 159 [t0,t1] []=
 (Cl 192 (AA [] [t0,t1]) []).bind fun a1=>(AL .geq a1.1 (V.int .i64 0)).bind fun a2=>AV 0 [] a2:=
 Au (by kernel_rfl)
theorem AES (t0:V):Cl 160 [t0] []=
 (AL .mul t0 (V.int .u32 2654435761)).bind fun a1=>(AL .shr a1 (V.int .u64 15)).bind fun a2=>(AL .xor a1 a2).bind fun a3=>(AL .mul a3 (V.int .u32 2246822519)).bind fun a4=>(AL .shr a4 (V.int .u64 13)).bind fun a5=>(AL .xor a4 a5).bind fun a6=>AV 0 [] a6:=
 Au (by kernel_rfl)
theorem AET (t0:V):Cl 175 [t0] []=
 jn (fun a1=>
 AV 0 [] a1) (fun(a2:V→Rv)=>(AL .gtr t0 (V.int .i64 1125899906842624)).bind fun a3=>V.ite a3 (a2 (V.bool true)) ((AL .lss t0 (V.int .i64 (-1125899906842624))).bind fun a4=>a2 a4)):=
 Au (by kernel_rfl)
def YG (h:List V) (k:V→List V→Rv):Rv:=
 k (V.ref (List.length h) [] 66) (h++[zero P 66])
def YH (t0:V) (h:List V) (k:V→Rv):Rv:=
 (Cl 194 (AA h [t0,(V.lst 5 .nil [])]) []).bind fun r=>k r.1
def YI (t3:V) (h:List V) (k:V→Rv):Rv:=
 (lenV P 172 (V.weak t3)).bind fun t12=>(conv P h 3 132 t12).bind fun t13=>(AL .mul t13 (V.int .u64 8)).bind fun t14=>k t14
def YJ (t3:V) (h:List V) (k:V→Rv):Rv:=
 (Be P 172 1 [(0,(V.int .u8 128))]).bind fun t16=>(Dn P 172 h t3 t16).bind fun t17=>k t17
def MC (t2 t3 t4:V) (h:List V):Rv:=lp W 176 0 (cd 176 143) (bk 0 (sk 176 0 63 (lv 176 0))) ⟨[(2,t2),(3,t3),(4,t4)],h⟩
def Rn (t3:V) (k:V→Rv):Rv:=
 (lenV P 172 (V.weak t3)).bind fun t19=>(AL .rem t19 (V.int .i64 64)).bind fun t20=>(AL .neq t20 (V.int .i64 56)).bind fun t21=>k t21
def YK (t3:V) (h:List V) (k:V→Rv):Rv:=
 (Be P 172 1 [(0,(V.int .u8 0))]).bind fun t23=>(Dn P 172 h t3 t23).bind fun t24=>k t24
def YL (k:V→Rv):Rv:=
 k (V.int .i64 0)
def MF (t2 t3 t4 t25:V) (h:List V):Rv:=lp W 176 2 (cd 176 607) (bk 2 (sk 176 0 127 (lv 176 0))) ⟨[(2,t2),(3,t3),(4,t4),(25,t25)],h⟩
def Ro (t25:V) (k:V→Rv):Rv:=
 (AL .lss t25 (V.int .i64 8)).bind fun t26=>k t26
def YM (t25:V) (k:V→Rv):Rv:=
 k t25
def YN (t3 t4 t5:V) (h:List V) (k:V→Rv):Rv:=
 (AL .mul (V.int .i64 8) t5).bind fun t31=>(AL .sub (V.int .i64 56) t31).bind fun t32=>(conv P h 3 192 t32).bind fun t33=>(AL .shr t4 t33).bind fun t34=>(conv P h 132 5 t34).bind fun t35=>(Be P 172 1 [(0,t35)]).bind fun t36=>(Dn P 172 h t3 t36).bind fun t37=>k t37
def UN (t25:V) (k:V→Rv):Rv:=
 (AL .add t25 (V.int .i64 1)).bind fun t38=>k t38
def UO (h:List V) (k:V→List V→Rv):Rv:=
 (AZ h 247 (V.rop 247 QF)).bind fun t39=>(FQ P (h++[zero P 247]) 247 (V.ref (List.length h) [] 247) t39).bind fun a1=>k (V.ref (List.length h) [] 247) a1
def MG (t2 t3 t6:V) (h:List V):Rv:=lp W 176 4 (cd 176 1151) (bk 4 (sk 176 0 511 (lv 176 0))) ⟨[(2,t2),(3,t3),(6,t6)],h⟩
def Ns (t3:V) (k:V→Rv):Rv:=
 (lenV P 172 (V.weak t3)).bind fun t41=>(AL .gtr t41 (V.int .i64 0)).bind fun t42=>k t42
def UQ (t3 t6:V) (h:List V) (k:List V→Rv):Rv:=
 (AZ h 247 t6).bind fun t45=>(Kw P 172 (V.weak t3) none (some (V.int .i64 64)) none).bind fun t47=>(Cl 195 (AA h [t45,t47]) []).bind fun r=>(FQ P h 247 t6 r.1).bind fun a1=>k a1
def UR (t3:V) (k:V→Rv):Rv:=
 (Kw P 172 t3 (some (V.int .i64 64)) none none).bind fun t44=>k t44
def UU (h:List V) (k:V→List V→Rv):Rv:=
 k (V.ref (List.length h) [] 66) (h++[zero P 66])
def UW (k:V→Rv):Rv:=
 k (V.int .i64 0)
def MH (t2 t6 t7 t49:V) (h:List V):Rv:=lp W 176 6 (cd 176 9727) (bk 6 (sk 176 0 2047 (lv 176 0))) ⟨[(2,t2),(6,t6),(7,t7),(49,t49)],h⟩
def Nu (t49:V) (k:V→Rv):Rv:=
 (AL .lss t49 (V.int .i64 32)).bind fun t50=>k t50
def UX (t49:V) (k:V→Rv):Rv:=
 k t49
def Nv (t6 t7 t8:V) (h:List V) (k:List V→Rv):Rv:=
 (AL .quo t8 (V.int .i64 4)).bind fun t54=>(AP P 247 t6 t54).bind fun t55=>(AZ h 203 t55).bind fun t56=>(AL .rem t8 (V.int .i64 4)).bind fun t58=>(AL .mul (V.int .i64 8) t58).bind fun t59=>(AL .sub (V.int .i64 24) t59).bind fun t60=>(conv P h 3 192 t60).bind fun t61=>(AL .shr t56 t61).bind fun t62=>(conv P h 203 5 t62).bind fun t63=>(AP P 66 t7 t8).bind fun t64=>(FQ P h 5 t64 t63).bind fun a1=>k a1
def UY (t49:V) (k:V→Rv):Rv:=
 (AL .add t49 (V.int .i64 1)).bind fun t65=>k t65
def UZ (t2 t7:V) (h:List V) (k:List V→Rv):Rv:=
 (AZ h 66 t7).bind fun t66=>(FQ P h 66 t2 t66).bind fun a1=>k a1
theorem Nw (t2 t6 t7 t49:V) (h:List V):MH t2 t6 t7 t49 h=
 Nu t49 fun a21=>
  V.ite a21
  (UX t49 fun a22=>
  Nv t6 t7 a22 h fun a23=>
  UY t49 fun a24=>
  MH t2 t6 t7 a24 a23)
  (UZ t2 t7 h fun a25=>
  (AZ a25 66 t2).bind fun a26=>AV 0 a25 a26):=
 DK (by kernel_rfl)
theorem Ny (t2 t3 t6:V) (h:List V):MG t2 t3 t6 h=
 Ns t3 fun a15=>
  V.ite a15
  (UQ t3 t6 h fun a16=>
  UR t3 fun a17=>
  MG t2 a17 t6 a16)
  (UU h fun a18 a19=>
  UW fun a20=>
  MH t2 t6 a18 a20 a19):=
 DK (by kernel_rfl)
theorem Nz (t2 t3 t4 t25:V) (h:List V):MF t2 t3 t4 t25 h=
 Ro t25 fun a9=>
  V.ite a9
  (YM t25 fun a10=>
  YN t3 t4 a10 h fun a11=>
  UN t25 fun a12=>
  MF t2 a11 t4 a12 h)
  (UO h fun a13 a14=>
  MG t2 t3 a13 a14):=
 DK (by kernel_rfl)
theorem N7 (t2 t3 t4:V) (h:List V):MC t2 t3 t4 h=
 Rn t3 fun a6=>
  V.ite a6
  (YK t3 h fun a7=>
  MC t2 a7 t4 h)
  (YL fun a8=>
  MF t2 t3 t4 a8 h):=
 DK (by kernel_rfl)
theorem AEU (t0:V):Cl 176 [t0] []=
 YG [] fun a1 a2=>
  YH t0 a2 fun a3=>
  YI a3 a2 fun a4=>
  YJ a3 a2 fun a5=>
  MC a1 a5 a4 a2:=
 Au (by kernel_rfl)
def YO (h:List V) (k:V→List V→Rv):Rv:=
 k (V.ref (List.length h) [] 66) (h++[zero P 66])
def YP (t0 t2:V) (h:List V) (k:List V→Rv):Rv:=
 (Be P 172 1 [(0,(V.int .u8 0))]).bind fun t3=>(conv P h 9 172 t0).bind fun t5=>(Be P 245 2 [(0,t3),(1,t5)]).bind fun t6=>(Cl 176 (AA h [t6]) []).bind fun r=>(FQ P h 66 t2 r.1).bind fun a1=>k a1
theorem AEV (t0:V):Cl 177 [t0] []=
 YO [] fun a1 a2=>
  YP t0 a1 a2 fun a3=>
  (AZ a3 66 a1).bind fun a4=>AV 0 a3 a4:=
 Au (by kernel_rfl)
theorem AEW (t0 t1:V):Cl 178 [t0,t1] []=
 if((CG 65) t0&&V.under 0 t0)=true then if((CG 65) t1&&V.under 1 t1)=true then(Tq 5 false (ck [(Pv .u8) (V.int .u8 1)] [(V.int .u8 1)])).bind fun a1=>(slA 66 65 32 5 (V.ref 0 [] 66) none none none).bind fun a2=>(slA 66 65 32 5 (V.ref 1 [] 66) none none none).bind fun a3=>(Tq 172 true (ck [(Xm 5) a1,(Xm 5) a2,(Xm 5) a3] [(V.weak a1),(V.weak a2),(V.weak a3)])).bind fun a4=>(Cl 176 (AA [t0,t1,(V.agg 65 (List.replicate 32 (V.int .u8 0)))] [a4]) []).bind fun a5=>(FT (CG 65) 66 [t0,t1,(V.agg 65 (List.replicate 32 (V.int .u8 0)))] (V.ref 2 [] 66) a5.1).bind fun a6=>(AZ a6 66 (V.ref 2 [] 66)).bind fun a7=>AV 0 a6 a7 else none else none:=
 Au (by kernel_rfl)
def YQ (k:Rv):Rv:=
 k
def YR (k:V→Rv):Rv:=
 k (V.int .u64 1)
def YS (k:V→Rv):Rv:=
 k (V.int .i64 0)
def MI (t0 t3 t4:V):Rv:=lp W 179 0 (cd 179 75) (bk 0 (sk 179 0 15 (lv 179 0))) ⟨[(0,t0),(3,t3),(4,t4)],[]⟩
def Rq (t0 t4:V) (k:V→Rv):Rv:=
 (AL .lss t4 t0).bind fun t7=>k t7
def YT (t3:V) (k:V→Rv):Rv:=
 (AL .mul (V.int .u64 2) t3).bind fun t11=>k t11
def YU (t4:V) (k:V→Rv):Rv:=
 (AL .add t4 (V.int .i64 1)).bind fun t9=>k t9
def YV (t3:V) (k:V→Rv):Rv:=
 k t3
theorem N8 (t0 t3 t4:V):MI t0 t3 t4=
 Rq t0 t4 fun a3=>
  V.ite a3
  (YT t3 fun a4=>
  YU t4 fun a5=>
  MI t0 a4 a5)
  (YV t3 fun a6=>
  AV 0 [] a6):=
 DK (by kernel_rfl)
theorem AEX (t0:V):Cl 179 [t0] []=
 YQ (YR fun a1=>
  YS fun a2=>
  MI t0 a1 a2):=
 Au (by kernel_rfl)
def YW (k:Rv):Rv:=
 k
def AEY (k:V→Rv):Rv:=
 (Be P 231 64 [(0,(V.int .u64 1116352408)),(1,(V.int .u64 1899447441)),(2,(V.int .u64 3049323471)),(3,(V.int .u64 3921009573)),(4,(V.int .u64 961987163)),(5,(V.int .u64 1508970993)),(6,(V.int .u64 2453635748)),(7,(V.int .u64 2870763221)),(8,(V.int .u64 3624381080)),(9,(V.int .u64 310598401)),(10,(V.int .u64 607225278)),(11,(V.int .u64 1426881987)),(12,(V.int .u64 1925078388)),(13,(V.int .u64 2162078206)),(14,(V.int .u64 2614888103)),(15,(V.int .u64 3248222580)),(16,(V.int .u64 3835390401)),(17,(V.int .u64 4022224774)),(18,(V.int .u64 264347078)),(19,(V.int .u64 604807628)),(20,(V.int .u64 770255983)),(21,(V.int .u64 1249150122)),(22,(V.int .u64 1555081692)),(23,(V.int .u64 1996064986)),(24,(V.int .u64 2554220882)),(25,(V.int .u64 2821834349)),(26,(V.int .u64 2952996808)),(27,(V.int .u64 3210313671)),(28,(V.int .u64 3336571891)),(29,(V.int .u64 3584528711)),(30,(V.int .u64 113926993)),(31,(V.int .u64 338241895)),(32,(V.int .u64 666307205)),(33,(V.int .u64 773529912)),(34,(V.int .u64 1294757372)),(35,(V.int .u64 1396182291)),(36,(V.int .u64 1695183700)),(37,(V.int .u64 1986661051)),(38,(V.int .u64 2177026350)),(39,(V.int .u64 2456956037)),(40,(V.int .u64 2730485921)),(41,(V.int .u64 2820302411)),(42,(V.int .u64 3259730800)),(43,(V.int .u64 3345764771)),(44,(V.int .u64 3516065817)),(45,(V.int .u64 3600352804)),(46,(V.int .u64 4094571909)),(47,(V.int .u64 275423344)),(48,(V.int .u64 430227734)),(49,(V.int .u64 506948616)),(50,(V.int .u64 659060556)),(51,(V.int .u64 883997877)),(52,(V.int .u64 958139571)),(53,(V.int .u64 1322822218)),(54,(V.int .u64 1537002063)),(55,(V.int .u64 1747873779)),(56,(V.int .u64 1955562222)),(57,(V.int .u64 2024104815)),(58,(V.int .u64 2227730452)),(59,(V.int .u64 2361852424)),(60,(V.int .u64 2428436474)),(61,(V.int .u64 2756734187)),(62,(V.int .u64 3204031479)),(63,(V.int .u64 3329325298))]).bind fun t1=>k t1
theorem AEZ:Cl 180 [] []=
 YW (AEY fun a1=>
  AV 0 [] a1):=
 Au (by kernel_rfl)
def YX (k:Rv):Rv:=
 k
def YZ (t0:V) (k:V→Rv):Rv:=
 (AL .rem t0 (V.int .u64 4294967296)).bind fun t4=>k t4
theorem AEa (t0:V):Cl 181 [t0] []=
 YX (YZ t0 fun a1=>
  AV 0 [] a1):=
 Au (by kernel_rfl)
def Ya (k:Rv):Rv:=
 k
def Yb (t0 t1:V) (k:V→Rv):Rv:=
 (Cl 179 (AA [] [t1]) []).bind fun r=>(AL .quo t0 r.1).bind fun t8=>(Cl 179 (AA [] [t1]) []).bind fun a1=>(AL .rem t0 a1.1).bind fun t12=>(AL .sub (V.int .i64 32) t1).bind fun t14=>(Cl 179 (AA [] [t14]) []).bind fun a2=>(AL .mul t12 a2.1).bind fun t16=>(AL .add t8 t16).bind fun t17=>k t17
theorem AEb (t0 t1:V):Cl 182 [t0,t1] []=
 Ya (Yb t0 t1 fun a1=>
  AV 0 [] a1):=
 Au (by kernel_rfl)
def MJ (t0 t1 t7 t8:V) (n:Nat) (h:List V):Rv:=lp W 188 0 (cd 188 37) (bk 0 (sk 188 0 7 (lv 188 n))) ⟨[(0,t0),(1,t1),(7,t7),(8,t8)],h⟩
theorem N9 (t0 t1 t7 t8:V) (n:Nat) (h:List V):MJ t0 t1 t7 t8 n h=
 (AL .lss t8 t7).bind fun a2=>V.ite a2
  ((Gg 96 (V.weak t0) t8).bind fun a3=>(AZ h 96 a3).bind fun a4=>Cj P DU W t1 [a4] h fun a5 a6=>if V.noOwn a5=true then V.ite a5
  (AV n a6 t8)
  ((AL .add t8 (V.int .i64 1)).bind fun a7=>MJ t0 t1 t7 a7 n a6)else none)
  (AV n h (V.int .i64 (-1))):=
 DK (by kernel_rfl)
theorem AEc (t0 t1:V) (h:List V):Cl 188 [t0,t1] h=
 (J8 (V.weak t0)).bind fun a1=>MJ t0 t1 a1 (V.int .i64 0) (List.length h) h:=
 Au (by kernel_rfl)
theorem AEd (t0:V) (h:List V):Cl 189 [t0] h=
 (aps 191 96 [(V.lst 96 .nil []),t0] h).bind fun a1=>RP a1.2 a1.1:=
 Au (by kernel_rfl)
def MK (t0 t1 t7 t8:V):Rv:=lp W 192 0 (cd 192 37) (bk 0 (sk 192 0 7 (lv 192 0))) ⟨[(0,t0),(1,t1),(7,t7),(8,t8)],[]⟩
theorem OA (t0 t1 t7 t8:V):MK t0 t1 t7 t8=
 (AL .lss t8 t7).bind fun a2=>V.ite a2
  ((Gg 9 (V.weak t0) t8).bind fun a3=>(AZ [] 9 a3).bind fun a4=>(AL .eql t1 a4).bind fun a5=>V.ite a5
  (AV 0 [] t8)
  ((AL .add t8 (V.int .i64 1)).bind fun a6=>MK t0 t1 t7 a6))
  (AV 0 [] (V.int .i64 (-1))):=
 DK (by kernel_rfl)
theorem AEe (t0 t1:V):Cl 192 [t0,t1] []=
 (J8 (V.weak t0)).bind fun a1=>MK t0 t1 a1 (V.int .i64 0):=
 Au (by kernel_rfl)
def Yc (k:Rv):Rv:=
 k
def Yd (t0:V) (k:V→Rv):Rv:=
 (lenV P 245 (V.weak t0)).bind fun t13=>(AL .eql t13 (V.int .i64 0)).bind fun t14=>k t14
def AEf (h:List V) (k:V→List V→Rv):Rv:=
 (Be P 172 0 []).bind fun v=>(C9 h v).bind fun r=>k r.1 r.2
def Ye (t0:V) (k:V→Rv):Rv:=
 (lenV P 245 (V.weak t0)).bind fun t17=>(AL .eql t17 (V.int .i64 1)).bind fun t18=>k t18
def Yf (t0:V) (h:List V) (k:V→List V→Rv):Rv:=
 (AP P 245 t0 (V.int .i64 0)).bind fun t20=>(DZ h 172 t20).bind fun t21=>(Dn P 172 h (V.lst 5 .nil []) t21).bind fun v=>(C9 h v).bind fun r=>k r.1 r.2
def Yg (k:V→Rv):Rv:=
 k (V.int .i64 0)
def Yh (t1:V) (k:V→Rv):Rv:=
 (lenV P 172 (V.weak t1)).bind fun t24=>(AL .gtr t24 (V.int .i64 0)).bind fun t25=>k t25
def Ua (t0:V) (k:V→V→V→Rv):Rv:=
 (lenV P 245 (V.weak t0)).bind fun t43=>k (V.weak t0) t43 (V.int .i64 0)
def ML (t0 t1 t5 t42 t43 t44:V) (h:List V):Rv:=lp W 194 0 (cd 194 607) (bk 0 (sk 194 0 127 (lv 194 0))) ⟨[(0,t0),(1,t1),(5,t5),(42,t42),(43,t43),(44,t44)],h⟩
def OB (t43 t44:V) (k:V→Rv):Rv:=
 (AL .lss t44 t43).bind fun t45=>k t45
def Ub (t42 t44:V) (h:List V) (k:V→Rv):Rv:=
 (AP P 245 t42 t44).bind fun t46=>(DZ h 172 t46).bind fun t47=>k t47
def Uc (t5 t7:V) (k:V→Rv):Rv:=
 (lenV P 172 (V.weak t7)).bind fun t49=>(AL .sub (V.int .i64 9223372036854775807) t5).bind fun t51=>(AL .gtr t49 t51).bind fun t52=>k t52
def Ud (t5 t7:V) (k:V→Rv):Rv:=
 (lenV P 172 t7).bind fun t56=>(AL .add t5 t56).bind fun t57=>k t57
def Ue (t44:V) (k:V→Rv):Rv:=
 (AL .add t44 (V.int .i64 1)).bind fun t58=>k t58
def Uf (t5:V) (h:List V) (k:V→List V→Rv):Rv:=
 mnz P 0 210 [t5] h fun t60 a1=>(Kw P 172 t60 none (some t5) (some t5)).bind fun t63=>k t63 a1
def Ug (t0 t8:V) (h:List V) (k:V→List V→Rv):Rv:=
 (AP P 245 (V.weak t0) (V.int .i64 0)).bind fun t66=>(DZ h 172 t66).bind fun t67=>(cpy P 172 h (V.weak t8) t67).bind fun r=>k r.1 r.2
def Uh (t0:V) (k:V→V→V→Rv):Rv:=
 (Kw P 245 t0 (some (V.int .i64 1)) none none).bind fun t70=>(lenV P 245 t70).bind fun t71=>k t70 t71 (V.int .i64 0)
def MN (t1 t8 t9 t70 t71 t72:V) (h:List V):Rv:=lp W 194 2 (cd 194 4863) (bk 2 (sk 194 0 1023 (lv 194 0))) ⟨[(1,t1),(8,t8),(9,t9),(70,t70),(71,t71),(72,t72)],h⟩
def OC (t71 t72:V) (k:V→Rv):Rv:=
 (AL .lss t72 t71).bind fun t73=>k t73
def Ui (t70 t72:V) (h:List V) (k:V→Rv):Rv:=
 (AP P 245 t70 t72).bind fun t74=>(DZ h 172 t74).bind fun t75=>k t75
def Uj (t1 t8 t9:V) (h:List V) (k:V→List V→Rv):Rv:=
 (Kw P 172 (V.weak t8) (some t9) none none).bind fun t79=>(cpy P 172 h t79 (V.weak t1)).bind fun r=>(AL .add t9 r.1).bind fun t82=>k t82 r.2
def Uk (t8 t9 t11:V) (h:List V) (k:V→List V→Rv):Rv:=
 (Kw P 172 (V.weak t8) (some t9) none none).bind fun t86=>(cpy P 172 h t86 t11).bind fun r=>(AL .add t9 r.1).bind fun t89=>k t89 r.2
def Ul (t72:V) (k:V→Rv):Rv:=
 (AL .add t72 (V.int .i64 1)).bind fun t90=>k t90
def Um (t8:V) (k:V→Rv):Rv:=
 k t8
theorem OD (t1 t8 t9 t70 t71 t72:V) (h:List V):MN t1 t8 t9 t70 t71 t72 h=
 OC t71 t72 fun a25=>
  V.ite a25
  (Ui t70 t72 h fun a26=>
  Uj t1 t8 t9 h fun a27 a28=>
  Uk t8 a27 a26 a28 fun a29 a30=>
  Ul t72 fun a31=>
  MN t1 t8 a29 t70 t71 a31 a30)
  (Um t8 fun a32=>
  Pq 0 h a32):=
 DK (by kernel_rfl)
theorem OE (t0 t1 t5 t42 t43 t44:V) (h:List V):ML t0 t1 t5 t42 t43 t44 h=
 OB t43 t44 fun a13=>
  V.ite a13
  (Ub t42 t44 h fun a14=>
  Uc t5 a14 fun a15=>
  V.ite a15
  (none)
  (Ud t5 a14 fun a16=>
  Ue t44 fun a17=>
  ML t0 t1 a16 t42 t43 a17 h))
  (Uf t5 h fun a18 a19=>
  Ug t0 a18 a19 fun a20 a21=>
  Uh t0 fun a22 a23 a24=>
  MN t1 a18 a20 a22 a23 a24 a21):=
 DK (by kernel_rfl)
def AEg (t0 t1:V) (k:V→Rv):Rv:=
 (lenV P 172 (V.weak t1)).bind fun t27=>(lenV P 245 (V.weak t0)).bind fun t29=>(AL .sub t29 (V.int .i64 1)).bind fun t30=>(AL .quo (V.int .i64 9223372036854775807) t30).bind fun t31=>(AL .geq t27 t31).bind fun t32=>k t32
def AEh (t0 t1 t5:V) (k:V→Rv):Rv:=
 (lenV P 172 (V.weak t1)).bind fun t36=>(lenV P 245 (V.weak t0)).bind fun t38=>(AL .sub t38 (V.int .i64 1)).bind fun t39=>(AL .mul t36 t39).bind fun t40=>(AL .add t5 t40).bind fun t41=>k t41
theorem AEi (t0 t1:V):Cl 194 [t0,t1] []=
 Yc (Yd t0 fun a1=>
  V.ite a1
  (AEf [] fun a2 a3=>
  Pq 0 a3 a2)
  (Ye t0 fun a4=>
  V.ite a4
  (Yf t0 [] fun a5 a6=>
  Pq 0 a6 a5)
  (Yg fun a7=>
  Yh t1 fun a8=>
  jn (fun a9=>Ua t0 fun a10 a11 a12=>
  ML t0 t1 a9 a10 a11 a12 [])
  (fun(j0:V→Rv)=>V.ite a8
  (AEg t0 t1 fun a33=>
  V.ite a33
  (none)
  (AEh t0 t1 a7 fun a34=>
  j0 a34))
  (j0 a7))))):=
 Au (LC<|Tn (fun K=>K ⟨[(0,t0),(1,t1)],[]⟩) (Iq<|LC<|LC<|Tn (fun K u14=>K ⟨[(0,t0),(1,t1),(14,u14)],[]⟩) (funext fun a1=>Iq<|WR (by kernel_rfl) (ABF<|Iq<|LC<|LC<|Tn (fun K u18=>K ⟨[(0,t0),(1,t1),(18,u18)],[]⟩) (funext fun a4=>Iq<|WR (by kernel_rfl) (ABF<|Iq<|LC<|Tn (fun K u5=>K ⟨[(0,t0),(1,t1),(5,u5)],[]⟩) (funext fun a7=>Iq<|LC<|LC<|Tn (fun K u25=>K ⟨[(0,t0),(1,t1),(5,a7),(25,u25)],[]⟩) (funext fun a8=>Iq<|AL4 (fun K a9=>K ⟨[(0,t0),(1,t1),(5,a9)],[]⟩) (funext fun a9=>by kernel_rfl) (WR (by kernel_rfl) (by kernel_rfl))))))))))
def Yi (t0:V) (h:List V) (k:V→V→List V→Rv):Rv:=
 if(Bd P 247 t0&&V.under (List.length h) t0)=true then k (V.ref (List.length h) [] 247) (V.ref (List.length (h++[t0])) [] 247) ((h++[t0])++[zero P 247])else none
def Yj (h:List V) (k:V→List V→Rv):Rv:=
 k (V.ref (List.length h) [] 261) (h++[zero P 261])
def Yk (k:V→Rv):Rv:=
 k (V.int .i64 0)
def MO (t1 t2 t4 t5 t23:V) (h:List V):Rv:=lp W 195 0 (cd 195 75) (bk 0 (sk 195 0 15 (lv 195 0))) ⟨[(1,t1),(2,t2),(4,t4),(5,t5),(23,t23)],h⟩
def Rt (t23:V) (k:V→Rv):Rv:=
 (AL .lss t23 (V.int .i64 16)).bind fun t24=>k t24
def Yl (t23:V) (k:V→Rv):Rv:=
 k t23
def Ym (t1 t6:V) (k:V→Rv):Rv:=
 (AL .mul (V.int .i64 4) t6).bind fun t28=>(AL .mul (V.int .i64 4) t6).bind fun t30=>(AL .add t30 (V.int .i64 4)).bind fun t31=>(Kw P 172 (V.weak t1) (some t28) (some t31) none).bind fun t32=>k t32
def Ru (t5 t6 t7:V) (h:List V) (k:List V→Rv):Rv:=
 (AP P 172 (V.weak t7) (V.int .i64 0)).bind fun t35=>(AZ h 5 t35).bind fun t36=>(conv P h 5 203 t36).bind fun t37=>(AL .shl t37 (V.int .u64 24)).bind fun t38=>(AP P 172 (V.weak t7) (V.int .i64 1)).bind fun t40=>(AZ h 5 t40).bind fun t41=>(conv P h 5 203 t41).bind fun t42=>(AL .shl t42 (V.int .u64 16)).bind fun t43=>(AL .or t38 t43).bind fun t44=>(AP P 172 (V.weak t7) (V.int .i64 2)).bind fun t46=>(AZ h 5 t46).bind fun t47=>(conv P h 5 203 t47).bind fun t48=>(AL .shl t48 (V.int .u64 8)).bind fun t49=>(AL .or t44 t49).bind fun t50=>(AP P 172 (V.weak t7) (V.int .i64 3)).bind fun t52=>(AZ h 5 t52).bind fun t53=>(conv P h 5 203 t53).bind fun t54=>(AL .or t50 t54).bind fun t55=>(AP P 261 t5 t6).bind fun t56=>(FQ P h 203 t56 t55).bind fun a1=>k a1
def Yn (t23:V) (k:V→Rv):Rv:=
 (AL .add t23 (V.int .i64 1)).bind fun t57=>k t57
def Yo (k:V→Rv):Rv:=
 k (V.int .i64 16)
def MP (t2 t4 t5 t8:V) (h:List V):Rv:=lp W 195 2 (cd 195 151) (bk 2 (sk 195 0 31 (lv 195 0))) ⟨[(2,t2),(4,t4),(5,t5),(8,t8)],h⟩
def Rw (t8:V) (k:V→Rv):Rv:=
 (AL .lss t8 (V.int .i64 64)).bind fun t59=>k t59
def OG (t5 t8:V) (h:List V) (k:V→Rv):Rv:=
 (AL .sub t8 (V.int .i64 15)).bind fun t63=>(AP P 261 t5 t63).bind fun t64=>(AZ h 203 t64).bind fun t65=>(Cl 211 (AA h [t65,(V.int .i64 7)]) []).bind fun r=>(AL .sub t8 (V.int .i64 15)).bind fun t68=>(AP P 261 t5 t68).bind fun t69=>(AZ h 203 t69).bind fun t70=>(Cl 211 (AA h [t70,(V.int .i64 18)]) []).bind fun a1=>(AL .xor r.1 a1.1).bind fun t72=>(AL .sub t8 (V.int .i64 15)).bind fun t74=>(AP P 261 t5 t74).bind fun t75=>(AZ h 203 t75).bind fun t76=>(AL .shr t76 (V.int .u64 3)).bind fun t77=>(AL .xor t72 t77).bind fun t78=>k t78
def OH (t5 t8:V) (h:List V) (k:V→Rv):Rv:=
 (AL .sub t8 (V.int .i64 2)).bind fun t80=>(AP P 261 t5 t80).bind fun t81=>(AZ h 203 t81).bind fun t82=>(Cl 211 (AA h [t82,(V.int .i64 17)]) []).bind fun r=>(AL .sub t8 (V.int .i64 2)).bind fun t85=>(AP P 261 t5 t85).bind fun t86=>(AZ h 203 t86).bind fun t87=>(Cl 211 (AA h [t87,(V.int .i64 19)]) []).bind fun a1=>(AL .xor r.1 a1.1).bind fun t89=>(AL .sub t8 (V.int .i64 2)).bind fun t91=>(AP P 261 t5 t91).bind fun t92=>(AZ h 203 t92).bind fun t93=>(AL .shr t93 (V.int .u64 10)).bind fun t94=>(AL .xor t89 t94).bind fun t95=>k t95
def OI (t5 t8 t9 t10:V) (h:List V) (k:List V→Rv):Rv:=
 (AL .sub t8 (V.int .i64 16)).bind fun t98=>(AP P 261 t5 t98).bind fun t99=>(AZ h 203 t99).bind fun t100=>(AL .sub t8 (V.int .i64 7)).bind fun t102=>(AP P 261 t5 t102).bind fun t103=>(AZ h 203 t103).bind fun t104=>(AL .add t100 t104).bind fun t105=>(AL .add t105 t9).bind fun t107=>(AL .add t107 t10).bind fun t109=>(AP P 261 t5 t8).bind fun t110=>(FQ P h 203 t110 t109).bind fun a1=>k a1
def Un (t8:V) (k:V→Rv):Rv:=
 (AL .add t8 (V.int .i64 1)).bind fun t61=>k t61
def Uo (t2:V) (h:List V) (k:V→List V→Rv):Rv:=
 (AZ h 247 t2).bind fun t111=>(FQ P (h++[zero P 247]) 247 (V.ref (List.length h) [] 247) t111).bind fun a1=>k (V.ref (List.length h) [] 247) a1
def ABZ (k:V→Rv):Rv:=
 k (V.int .i64 0)
def MQ (t2 t4 t5 t11 t112:V) (h:List V):Rv:=lp W 195 4 (cd 195 607) (bk 4 (sk 195 0 127 (lv 195 0))) ⟨[(2,t2),(4,t4),(5,t5),(11,t11),(112,t112)],h⟩
def OJ (t112:V) (k:V→Rv):Rv:=
 (AL .lss t112 (V.int .i64 64)).bind fun t113=>k t113
def Ur (t112:V) (k:V→Rv):Rv:=
 k t112
def OL (t11:V) (h:List V) (k:V→V→V→V→V→V→Rv):Rv:=
 (AP P 247 t11 (V.int .i64 0)).bind fun t115=>(AZ h 203 t115).bind fun t116=>(AP P 247 t11 (V.int .i64 1)).bind fun t117=>(AZ h 203 t117).bind fun t118=>(AP P 247 t11 (V.int .i64 2)).bind fun t119=>(AZ h 203 t119).bind fun t120=>(AP P 247 t11 (V.int .i64 4)).bind fun t121=>(AZ h 203 t121).bind fun t122=>(AP P 247 t11 (V.int .i64 5)).bind fun t123=>(AZ h 203 t123).bind fun t124=>(AP P 247 t11 (V.int .i64 6)).bind fun t125=>(AZ h 203 t125).bind fun t126=>k t116 t118 t120 t122 t124 t126
def OM (t5 t11 t12 t16 t17 t18:V) (h:List V) (k:V→Rv):Rv:=
 (AP P 247 t11 (V.int .i64 7)).bind fun t127=>(AZ h 203 t127).bind fun t128=>(Cl 211 (AA h [t16,(V.int .i64 6)]) []).bind fun r=>(Cl 211 (AA h [t16,(V.int .i64 11)]) []).bind fun a1=>(AL .xor r.1 a1.1).bind fun t133=>(Cl 211 (AA h [t16,(V.int .i64 25)]) []).bind fun a2=>(AL .xor t133 a2.1).bind fun t136=>(AL .add t128 t136).bind fun t137=>(AL .xor t17 t18).bind fun t142=>(AL .and t16 t142).bind fun t143=>(AL .xor t18 t143).bind fun t144=>(AL .add t137 t144).bind fun t145=>(AP P 261 (V.rop 261 NH) t12).bind fun t147=>(AZ h 203 t147).bind fun t148=>(AL .add t145 t148).bind fun t149=>(AP P 261 t5 t12).bind fun t151=>(AZ h 203 t151).bind fun t152=>(AL .add t149 t152).bind fun t153=>k t153
def OO (t13 t14 t15:V) (h:List V) (k:V→Rv):Rv:=
 (Cl 211 (AA h [t13,(V.int .i64 2)]) []).bind fun r=>(Cl 211 (AA h [t13,(V.int .i64 13)]) []).bind fun a1=>(AL .xor r.1 a1.1).bind fun t158=>(Cl 211 (AA h [t13,(V.int .i64 22)]) []).bind fun a2=>(AL .xor t158 a2.1).bind fun t161=>(AL .and t13 t14).bind fun t164=>(AL .or t13 t14).bind fun t168=>(AL .and t15 t168).bind fun t169=>(AL .or t164 t169).bind fun t170=>(AL .add t161 t170).bind fun t171=>k t171
def OQ (t11 t13 t14 t15 t16 t17 t18 t19 t20:V) (h:List V) (k:List V→Rv):Rv:=
 (AL .add t19 t20).bind fun t174=>(AP P 247 t11 (V.int .i64 3)).bind fun t178=>(AZ h 203 t178).bind fun t179=>(AL .add t179 t19).bind fun t181=>(bld P 247 [(0,t174),(1,t13),(2,t14),(3,t15),(4,t181),(5,t16),(6,t17),(7,t18)]).bind fun t185=>(FQ P h 247 t11 t185).bind fun a1=>k a1
def Us (t112:V) (k:V→Rv):Rv:=
 (AL .add t112 (V.int .i64 1)).bind fun t186=>k t186
def Ut (t11:V) (h:List V) (k:V→V→Rv):Rv:=
 (AZ h 247 t11).bind fun t187=>k t187 (V.int .i64 0)
def MR (t2 t4 t187 t188:V) (h:List V):Rv:=lp W 195 6 (cd 195 1215) (bk 6 (sk 195 0 255 (lv 195 0))) ⟨[(2,t2),(4,t4),(187,t187),(188,t188)],h⟩
def OT (t188:V) (k:V→Rv):Rv:=
 (AL .lss t188 (V.int .i64 8)).bind fun t189=>k t189
def Uu (t187 t188:V) (k:V→V→Rv):Rv:=
 (Fz P 247 t187 t188).bind fun t191=>k t188 t191
def Uw (t2 t21 t22:V) (h:List V) (k:List V→Rv):Rv:=
 (AP P 247 t2 t21).bind fun t193=>(AZ h 203 t193).bind fun t194=>(AL .add t194 t22).bind fun t196=>(AP P 247 t2 t21).bind fun t197=>(FQ P h 203 t197 t196).bind fun a1=>k a1
def Ux (t188:V) (k:V→Rv):Rv:=
 (AL .add t188 (V.int .i64 1)).bind fun t198=>k t198
def Uy (t2 t4:V) (h:List V) (k:List V→Rv):Rv:=
 (AZ h 247 t2).bind fun t199=>(FQ P h 247 t4 t199).bind fun a1=>k a1
theorem OU (t2 t4 t187 t188:V) (h:List V):MR t2 t4 t187 t188 h=
 OT t188 fun a35=>
  V.ite a35
  (Uu t187 t188 fun a36 a37=>
  Uw t2 a36 a37 h fun a38=>
  Ux t188 fun a39=>
  MR t2 t4 t187 a39 a38)
  (Uy t2 t4 h fun a40=>
  (AZ a40 247 t4).bind fun a41=>AV 0 a40 a41):=
 DK (by kernel_rfl)
theorem OV (t2 t4 t5 t11 t112:V) (h:List V):MQ t2 t4 t5 t11 t112 h=
 OJ t112 fun a21=>
  V.ite a21
  (Ur t112 fun a22=>
  OL t11 h fun a23 a24 a25 a26 a27 a28=>
  OM t5 t11 a22 a26 a27 a28 h fun a29=>
  OO a23 a24 a25 h fun a30=>
  OQ t11 a23 a24 a25 a26 a27 a28 a29 a30 h fun a31=>
  Us t112 fun a32=>
  MQ t2 t4 t5 t11 a32 a31)
  (Ut t11 h fun a33 a34=>
  MR t2 t4 a33 a34 h):=
 DK (by kernel_rfl)
theorem OW (t2 t4 t5 t8:V) (h:List V):MP t2 t4 t5 t8 h=
 Rw t8 fun a13=>
  V.ite a13
  (OG t5 t8 h fun a14=>
  OH t5 t8 h fun a15=>
  OI t5 t8 a14 a15 h fun a16=>
  Un t8 fun a17=>
  MP t2 t4 t5 a17 a16)
  (Uo t2 h fun a18 a19=>
  ABZ fun a20=>
  MQ t2 t4 t5 a18 a20 a19):=
 DK (by kernel_rfl)
theorem OX (t1 t2 t4 t5 t23:V) (h:List V):MO t1 t2 t4 t5 t23 h=
 Rt t23 fun a7=>
  V.ite a7
  (Yl t23 fun a8=>
  Ym t1 a8 fun a9=>
  Ru t5 a8 a9 h fun a10=>
  Yn t23 fun a11=>
  MO t1 t2 t4 t5 a11 a10)
  (Yo fun a12=>
  MP t2 t4 t5 a12 h):=
 DK (by kernel_rfl)
theorem AEj (t0 t1:V):Cl 195 [t0,t1] []=
 Yi t0 [] fun a1 a2 a3=>
  Yj a3 fun a4 a5=>
  Yk fun a6=>
  MO t1 a1 a2 a4 a6 a5:=
 Au (by kernel_rfl)
def Yp (k:Rv):Rv:=
 k
def Yq (t0 t1:V) (k:V→Rv):Rv:=
 (un .neg t1).bind fun t7=>(Cl 225 (AA [] [t0,t7]) []).bind fun r=>k r.1
theorem AEk (t0 t1:V):Cl 211 [t0,t1] []=
 Yp (Yq t0 t1 fun a1=>
  AV 0 [] a1):=
 Au (by kernel_rfl)
def Yr (k:Rv):Rv:=
 k
def Yt (t1:V) (k:V→Rv):Rv:=
 (conv P [] 3 192 t1).bind fun t7=>(AL .and t7 (V.int .u64 31)).bind fun t8=>k t8
def Yu (t0 t5:V) (k:V→Rv):Rv:=
 (AL .shl t0 t5).bind fun t11=>(AL .sub (V.int .u64 32) t5).bind fun t14=>(AL .shr t0 t14).bind fun t15=>(AL .or t11 t15).bind fun t16=>k t16
theorem AEl (t0 t1:V):Cl 225 [t0,t1] []=
 Yr (Yt t1 fun a1=>
  Yu t0 a1 fun a2=>
  AV 0 [] a2):=
 Au (by kernel_rfl)
end
end Go.Proofs.YtoakaehjnbhgmaaGreatDoor
