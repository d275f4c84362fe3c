/-
  Part of the proof of a statement about the given program: an abstract machine over its code, the simulation, its functions' equations, what they compute.
-/
import Derived.Test.YtiegkempfolgcaaGreatDoorMg4
set_option linter.unusedVariables false
set_option linter.unusedSimpArgs false
set_option linter.unusedSectionVars false
set_option maxRecDepth 100000
noncomputable section
namespace Go.Proofs.YtiegkempfolgcaaGreatDoor
section
open Go AM
theorem ABD (t0 t1 t2:V):Cl 4 [t0,t1,t2] []=
 if((BJ 32) (V.weak t0)&&V.under 0 (V.weak t0))=true then jn (fun a1=>
 V.ite a1
  ((Cl 9 (AL [(V.weak t0)] []) []).bind fun a2=>AY 0 [(V.weak t0)] a2.1)
  ((BI [(V.weak t0)] 33 (V.ref 0 [] 33)).bind fun a3=>(Cl 18 (AL [(V.weak t0)] [a3]) []).bind fun a4=>(KX 60 true (ck [] [])).bind fun a5=>(GK 60 (BJ 59) true [(V.weak t0)] a5 (V.weak t1)).bind fun a6=>(Cl 17 (AL [(V.weak t0)] [a4.1,a6]) []).bind fun a7=>(ext a7.1 0).bind fun a8=>(ext a7.1 1).bind fun a9=>(BI [(V.weak t0)] 33 (V.ref 0 [] 33)).bind fun a10=>(Cl 19 (AL [(V.weak t0)] [a10,t1]) []).bind fun a11=>(ext a11.1 0).bind fun a12=>(ext a11.1 1).bind fun a13=>jn (fun a14=>
 V.ite a14
  (AY 0 [(V.weak t0)] (V.bool false))
  ((BI [(V.weak t0)] 33 (V.ref 0 [] 33)).bind fun a15=>(Cl 18 (AL [(V.weak t0)] [a15]) []).bind fun a16=>(Cl 20 (AL [(V.weak t0)] [a16.1,t2]) []).bind fun a17=>(ext a17.1 0).bind fun a18=>(ext a17.1 1).bind fun a19=>(BI [(V.weak t0)] 33 (V.ref 0 [] 33)).bind fun a20=>(Cl 21 (AL [(V.weak t0)] [a20,t2]) []).bind fun a21=>(ext a21.1 0).bind fun a22=>(ext a21.1 1).bind fun a23=>jn (fun a24=>
 AY 0 [(V.weak t0)] a24) (fun(a25:V→Rv)=>(AO .eql a18 a22).bind fun a26=>V.ite a26 ((AO .eql a19 (V.int .i64 0)).bind fun a27=>(WI tyB .eql a23 a27).bind fun a28=>V.ite a28 (V.ite a23 (a25 (V.bool true)) ((AO .eql a19 (V.int .i64 170)).bind fun a29=>a25 a29)) (a25 (V.bool false))) (a25 (V.bool false))))) (fun(a30:V→Rv)=>(AO .neq a8 a12).bind fun a31=>V.ite a31 (a30 (V.bool true)) ((AO .eql a9 (V.int .i64 0)).bind fun a32=>(WI tyB .neq a13 a32).bind fun a33=>V.ite a33 (a30 (V.bool true)) ((un .not a13).bind fun a34=>V.ite a34 ((AO .neq a9 (V.int .i64 170)).bind fun a35=>a30 a35) (a30 (V.bool false))))))) (fun(a36:V→Rv)=>(Cl 9 (AL [(V.weak t0)] []) []).bind fun a37=>(un .not a37.1).bind fun a38=>V.ite a38 (a36 (V.bool true)) ((BI [(V.weak t0)] 33 (V.ref 0 [] 33)).bind fun a39=>(Cl 15 (AL [(V.weak t0)] [a39]) []).bind fun a40=>(un .not a40.1).bind fun a41=>V.ite a41 (a36 (V.bool true)) ((Cl 16 (AL [(V.weak t0)] [(V.weak t1)]) []).bind fun a42=>(un .not a42.1).bind fun a43=>a36 a43)))else none:=
 BD (by kernel_rfl)
theorem AJk:Cl 9 [] []=
 ((ck [(Ph .i64) (V.int .i64 2)] [(V.int .i64 2),(V.lst 112 .nil [])]).map (.agg 23)).bind fun a1=>((ck [tyS (V.str [109,97,120]),(Ph .i64) (V.int .i64 2)] [(V.str [109,97,120]),(V.int .i64 0),(V.int .i64 2)]).map (.agg 25)).bind fun a2=>(DR (BJ 23) 24 [(V.agg 23 [(V.int .i64 0),(V.lst 112 .nil [])]),(V.agg 25 [(V.str []),(V.int .i64 0),(V.int .i64 0)])] (V.ref 0 [] 24) a1).bind fun a3=>(DR (BJ 25) 26 a3 (V.ref 1 [] 26) a2).bind fun a4=>(BI a4 24 (V.ref 0 [] 24)).bind fun a5=>(Ae a4 26 (V.ref 1 [] 26)).bind fun a6=>(Cl 10 (AL a4 [a5,a6,(V.int .i64 2)]) []).bind fun a7=>(GU a7.1 0).bind fun a8=>(ext a7.1 1).bind fun a9=>(DR (BJ 32) 33 (a4++[(V.agg 32 [(V.int .i64 0),(V.lst 4 .nil []),(V.lst 55 .nil []),(V.lst 58 .nil []),(V.lst 108 .nil [])])]) (V.ref (List.length a4) [] 33) a8).bind fun a10=>(BI a10 33 (V.ref (List.length a4) [] 33)).bind fun a11=>(Cl 20 (AL a10 [a11,(V.int .i64 1)]) []).bind fun a12=>(ext a12.1 0).bind fun a13=>(ext a12.1 1).bind fun a14=>(BI a10 24 (V.ref 0 [] 24)).bind fun a15=>(Ae a10 26 (V.ref 1 [] 26)).bind fun a16=>(BI a10 33 (V.ref (List.length a4) [] 33)).bind fun a17=>(Cl 23 (AL a10 [a15,a16,a17,a13]) []).bind fun a18=>(GU a18.1 0).bind fun a19=>(ext a18.1 1).bind fun a20=>(DR (BJ 32) 33 (a10++[(V.agg 32 [(V.int .i64 0),(V.lst 4 .nil []),(V.lst 55 .nil []),(V.lst 58 .nil []),(V.lst 108 .nil [])])]) (V.ref (List.length a10) [] 33) a19).bind fun a21=>(BI a21 33 (V.ref (List.length a4) [] 33)).bind fun a22=>(mkL 60 (V.agg 59 [(V.int .i64 0),(V.int .i64 0),(V.agg 56 [(V.int .i64 0),(V.int .i64 0),(V.agg 54 (List.replicate 32 (V.int .u8 0))),(V.lst 55 .nil [])]),(V.lst 108 .nil []),(V.lst 9 .nil [])]) (V.int .i64 2) (V.int .i64 2)).bind fun a23=>(Cl 17 (AL a21 [a22,a23]) []).bind fun a24=>(ext a24.1 0).bind fun a25=>(ext a24.1 1).bind fun a26=>(BI a21 24 (V.ref 0 [] 24)).bind fun a27=>(Ae a21 26 (V.ref 1 [] 26)).bind fun a28=>(BI a21 33 (V.ref (List.length a4) [] 33)).bind fun a29=>(Cl 23 (AL a21 [a27,a28,a29,a25]) []).bind fun a30=>(GU a30.1 0).bind fun a31=>(ext a30.1 1).bind fun a32=>(DR (BJ 32) 33 (a21++[(V.agg 32 [(V.int .i64 0),(V.lst 4 .nil []),(V.lst 55 .nil []),(V.lst 58 .nil []),(V.lst 108 .nil [])])]) (V.ref (List.length a21) [] 33) a31).bind fun a33=>(BI a33 24 (V.ref 0 [] 24)).bind fun a34=>(Ae a33 26 (V.ref 1 [] 26)).bind fun a35=>(KX 9 false (ck [tyS a13,tyS a25,tyS (V.str [120])] [a13,a25,(V.str [120])])).bind fun a36=>(Cl 28 (AL a33 [a34,a35,(V.int .i64 2),a36]) []).bind fun a37=>(GU a37.1 0).bind fun a38=>(ext a37.1 1).bind fun a39=>(ext a37.1 2).bind fun a40=>(DR (BJ 32) 33 (a33++[(V.agg 32 [(V.int .i64 0),(V.lst 4 .nil []),(V.lst 55 .nil []),(V.lst 58 .nil []),(V.lst 108 .nil [])])]) (V.ref (List.length a33) [] 33) a38).bind fun a41=>jn (fun a42=>
 AY 0 a41 a42) (fun(a43:V→Rv)=>(AO .eql a9 (V.int .i64 0)).bind fun a44=>V.ite a44 ((fA 33 28 1 (V.ref (List.length a4) [] 33)).bind fun a45=>(BI a41 28 a45).bind fun a46=>(D8 a46).bind fun a47=>(AO .eql a47 (V.int .i64 2)).bind fun a48=>V.ite a48 ((AO .eql a13 (V.str [69,1])).bind fun a49=>V.ite a49 ((AO .eql a14 (V.int .i64 0)).bind fun a50=>V.ite a50 ((AO .eql a20 (V.int .i64 0)).bind fun a51=>V.ite a51 ((fA 33 28 1 (V.ref (List.length a10) [] 33)).bind fun a52=>(BI a41 28 a52).bind fun a53=>(Di 4 a53 (V.int .i64 1)).bind fun a54=>(Ae a41 4 a54).bind fun a55=>V.ite a55 ((fA 33 28 1 (V.ref (List.length a10) [] 33)).bind fun a56=>(BI a41 28 a56).bind fun a57=>(Di 4 a57 (V.int .i64 0)).bind fun a58=>(Ae a41 4 a58).bind fun a59=>(un .not a59).bind fun a60=>V.ite a60 ((fA 33 3 0 (V.ref (List.length a10) [] 33)).bind fun a61=>(Ae a41 3 a61).bind fun a62=>(AO .eql a62 (V.int .i64 0)).bind fun a63=>V.ite a63 ((AO .eql a26 (V.int .i64 0)).bind fun a64=>V.ite a64 ((AO .eql a32 (V.int .i64 0)).bind fun a65=>V.ite a65 ((fA 33 3 0 (V.ref (List.length a21) [] 33)).bind fun a66=>(Ae a41 3 a66).bind fun a67=>(AO .eql a67 (V.int .i64 1)).bind fun a68=>V.ite a68 ((AO .eql a39 (V.int .i64 2)).bind fun a69=>V.ite a69 ((AO .eql a40 (V.int .i64 0)).bind fun a70=>V.ite a70 ((fA 33 3 0 (V.ref (List.length a33) [] 33)).bind fun a71=>(Ae a41 3 a71).bind fun a72=>(AO .eql a72 (V.int .i64 1)).bind fun a73=>V.ite a73 ((fA 33 28 1 (V.ref (List.length a33) [] 33)).bind fun a74=>(BI a41 28 a74).bind fun a75=>(Di 4 a75 (V.int .i64 1)).bind fun a76=>(Ae a41 4 a76).bind fun a77=>a43 a77) (a43 (V.bool false))) (a43 (V.bool false))) (a43 (V.bool false))) (a43 (V.bool false))) (a43 (V.bool false))) (a43 (V.bool false))) (a43 (V.bool false))) (a43 (V.bool false))) (a43 (V.bool false))) (a43 (V.bool false))) (a43 (V.bool false))) (a43 (V.bool false))) (a43 (V.bool false))) (a43 (V.bool false))):=
 BD (by kernel_rfl)
def J4 (t2 t3 t4 t6 t8 t31 t32:V) (h:List V):Rv:=lp W 10 0 (cd 10 151) (bk 0 (sk 10 0 31 (lv 10 0))) ⟨[(2,t2),(3,t3),(4,t4),(6,t6),(8,t8),(31,t31),(32,t32)],h⟩
def ND (t2 t3 t4 t6 t8 t12 t31 t32 t43 t44 t45:V) (m0:Nat) (h:List V):Rv:=lp W 10 2 (cd 10 309655) (bk 2 (sk 10 1 63895 (bk 1 (sk 10 0 1943 (lk 10 0 m0 151 (bk 0 (sk 10 0 31 (lv 10 0)))))))) ⟨[(2,t2),(3,t3),(4,t4),(6,t6),(8,t8),(12,t12),(31,t31),(32,t32),(43,t43),(44,t44),(45,t45)],h⟩
theorem QF (t2 t3 t4 t6 t8 t12 t31 t32 t43 t44 t45:V) (m0:Nat) (h:List V):ND t2 t3 t4 t6 t8 t12 t31 t32 t43 t44 t45 m0 h=
 (AO .lss t45 t44).bind fun a15=>V.ite a15
  ((Di 3 t43 t45).bind fun a16=>(Ae h 3 a16).bind fun a17=>(Ae h 26 t4).bind fun a18=>(Cl 34 (AL h [a18,a17]) []).bind fun a19=>(KX 81 false (ck [(BJ 80) a19.1] [a19.1])).bind fun a20=>(GK 81 (BJ 80) false h t12 a20).bind fun a21=>(AO .add t45 (V.int .i64 1)).bind fun a22=>ND t2 t3 t4 t6 t8 a21 t31 t32 t43 t44 a22 m0 h)
  ((fA 33 29 2 t8).bind fun a23=>if(Zc t8 2 a23&&IW t8 a23)=true then(BR h 29 a23).bind fun a24=>DT P D9 W (some t8) (V.clo 35 []) [(V.weak t12)] a24.2 fun a25 a26=>(KX 55 false (ck [(BJ 54) a25] [a25])).bind fun a27=>if J3 true [a24.1,a27]=true then(GK 55 (BJ 54) false a26 a24.1 a27).bind fun a28=>(fA 33 30 3 t8).bind fun a29=>if(Zc t8 3 a29&&IW t8 a29)=true then(BR a26 30 a29).bind fun a30=>DT P D9 W (some t8) (V.clo 36 []) [(V.weak t12)] a30.2 fun a31 a32=>(KX 58 true (ck [(Pq 9) a31] [(V.weak a31)])).bind fun a33=>(GK 58 (Pq 9) true a32 a30.1 a33).bind fun a34=>(fA 33 29 2 t8).bind fun a35=>(DR (Pq 55) 29 a32 a35 a28).bind fun a36=>(fA 33 30 3 t8).bind fun a37=>(DR (Pq 58) 30 a36 a37 a34).bind fun a38=>(AO .add t32 (V.int .i64 1)).bind fun a39=>J4 t2 t3 t4 t6 t8 t31 a39 a38 else none else none else none):=
 Ce (by kernel_rfl)
theorem QG (t2 t3 t4 t6 t8 t31 t32:V) (h:List V):J4 t2 t3 t4 t6 t8 t31 t32 h=
 (AO .lss t32 t31).bind fun a8=>V.ite a8
  ((fA 24 3 0 t3).bind fun a9=>(Ae h 3 a9).bind fun a10=>(Cl 33 (AL h [a10,t2,t32]) []).bind fun a11=>(GU a11.1 0).bind fun a12=>(ext a11.1 1).bind fun a13=>(D8 a12).bind fun a14=>ND t2 t3 t4 t6 t8 (V.weak (V.lst 81 .nil [])) t31 t32 a12 a14 (V.int .i64 0) (List.length h) h)
  ((BI h 33 t8).bind fun a40=>(DR (BJ 32) 33 h t6 a40).bind fun a41=>(BI a41 33 t6).bind fun a42=>if(List.all [(V.int .i64 0),a42] V.okE)=true then AY 0 a41 (V.tup [a42,(V.int .i64 0)])else none):=
 Ce (by kernel_rfl)
theorem ABE (t0 t1 t2:V):Cl 10 [t0,t1,t2] []=
 if((BJ 23) (V.weak t0)&&V.under 0 (V.weak t0))=true then if((BJ 25) t1&&V.under 1 t1)=true then jn (fun a1=>
 V.ite a1
  (((ck [] [(V.int .i64 0),(V.lst 4 .nil []),(V.lst 55 .nil []),(V.lst 58 .nil []),(V.lst 108 .nil [])]).map (.agg 32)).bind fun a2=>(DR (BJ 32) 33 [(V.weak t0),t1,(V.agg 32 [(V.int .i64 0),(V.lst 4 .nil []),(V.lst 55 .nil []),(V.lst 58 .nil []),(V.lst 108 .nil [])])] (V.ref 2 [] 33) a2).bind fun a3=>(BI a3 33 (V.ref 2 [] 33)).bind fun a4=>if(List.all [(V.int .i64 170),a4] V.okE)=true then AY 0 a3 (V.tup [a4,(V.int .i64 170)])else none)
  ((mkL 4 (V.bool false) t2 t2).bind fun a5=>((ck [(Pq 4) a5] [(V.int .i64 0),(V.weak a5),(V.lst 55 .nil []),(V.lst 58 .nil []),(V.lst 108 .nil [])]).map (.agg 32)).bind fun a6=>(DR (BJ 32) 33 [(V.weak t0),t1,(V.agg 32 [(V.int .i64 0),(V.lst 4 .nil []),(V.lst 55 .nil []),(V.lst 58 .nil []),(V.lst 108 .nil [])]),(V.agg 32 [(V.int .i64 0),(V.lst 4 .nil []),(V.lst 55 .nil []),(V.lst 58 .nil []),(V.lst 108 .nil [])])] (V.ref 3 [] 33) a6).bind fun a7=>J4 t2 (V.ref 0 [] 24) (V.ref 1 [] 26) (V.ref 2 [] 33) (V.ref 3 [] 33) t2 (V.int .i64 0) a7)) (fun(a43:V→Rv)=>(BI [(V.weak t0),t1,(V.agg 32 [(V.int .i64 0),(V.lst 4 .nil []),(V.lst 55 .nil []),(V.lst 58 .nil []),(V.lst 108 .nil [])])] 24 (V.ref 0 [] 24)).bind fun a44=>(Ae [(V.weak t0),t1,(V.agg 32 [(V.int .i64 0),(V.lst 4 .nil []),(V.lst 55 .nil []),(V.lst 58 .nil []),(V.lst 108 .nil [])])] 26 (V.ref 1 [] 26)).bind fun a45=>(Cl 32 (AL [(V.weak t0),t1,(V.agg 32 [(V.int .i64 0),(V.lst 4 .nil []),(V.lst 55 .nil []),(V.lst 58 .nil []),(V.lst 108 .nil [])])] [a44,a45]) []).bind fun a46=>(AO .neq a46.1 (V.int .i64 0)).bind fun a47=>V.ite a47 (a43 (V.bool true)) ((AO .lss t2 (V.int .i64 1)).bind fun a48=>V.ite a48 (a43 (V.bool true)) ((AO .gtr t2 (V.int .i64 64)).bind fun a49=>a43 a49)))else none else none:=
 BD (by kernel_rfl)
def Ro (t1 t3:V) (h:List V):Rv:=lp W 15 0 (cd 15 37) (bk 0 (sk 15 0 7 (lv 15 0))) ⟨[(1,t1),(3,t3)],h⟩
theorem Hu (t1 t3:V) (h:List V):Ro t1 t3 h=
 (fA 33 30 3 t1).bind fun a1=>(BI h 30 a1).bind fun a2=>(D8 a2).bind fun a3=>(AO .lss t3 a3).bind fun a4=>V.ite a4
  (jn (fun a5=>
 V.ite a5
  (AY 0 h (V.bool false))
  ((AO .add t3 (V.int .i64 1)).bind fun a6=>Ro t1 a6 h)) (fun(a7:V→Rv)=>(fA 33 30 3 t1).bind fun a8=>(BI h 30 a8).bind fun a9=>(Di 58 a9 t3).bind fun a10=>(BI h 58 a10).bind fun a11=>(D8 a11).bind fun a12=>(AO .gtr a12 (V.int .i64 12)).bind fun a13=>V.ite a13 (a7 (V.bool true)) ((fA 33 30 3 t1).bind fun a14=>(BI h 30 a14).bind fun a15=>(Di 58 a15 t3).bind fun a16=>(BI h 58 a16).bind fun a17=>(Cl 27 (AL h [a17]) []).bind fun a18=>(un .not a18.1).bind fun a19=>a7 a19)))
  (jn (fun a20=>
 AY 0 h a20) (fun(a21:V→Rv)=>(fA 33 28 1 t1).bind fun a22=>(BI h 28 a22).bind fun a23=>(D8 a23).bind fun a24=>(AO .leq a24 (V.int .i64 8)).bind fun a25=>V.ite a25 ((fA 33 29 2 t1).bind fun a26=>(BI h 29 a26).bind fun a27=>(D8 a27).bind fun a28=>(AO .leq a28 (V.int .i64 8)).bind fun a29=>V.ite a29 ((fA 33 30 3 t1).bind fun a30=>(BI h 30 a30).bind fun a31=>(D8 a31).bind fun a32=>(AO .leq a32 (V.int .i64 8)).bind fun a33=>V.ite a33 ((fA 33 31 4 t1).bind fun a34=>(BI h 31 a34).bind fun a35=>(D8 a35).bind fun a36=>(AO .leq a36 (V.int .i64 20)).bind fun a37=>a21 a37) (a21 (V.bool false))) (a21 (V.bool false))) (a21 (V.bool false)))):=
 Ce (by kernel_rfl)
theorem AHB (t0:V):Cl 15 [t0] []=
 if((BJ 32) (V.weak t0)&&V.under 0 (V.weak t0))=true then Ro (V.ref 0 [] 33) (V.int .i64 0) [(V.weak t0)]else none:=
 BD (by kernel_rfl)
def Rq (t0 t3:V):Rv:=lp W 16 0 (cd 16 37) (bk 0 (sk 16 0 7 (lv 16 0))) ⟨[(0,t0),(3,t3)],[]⟩
theorem Hw (t0 t3:V):Rq t0 t3=
 (D8 (V.weak t0)).bind fun a1=>(AO .lss t3 a1).bind fun a2=>V.ite a2
  (jn (fun a3=>
 V.ite a3
  (AY 0 [] (V.bool false))
  ((AO .add t3 (V.int .i64 1)).bind fun a4=>Rq t0 a4)) (fun(a5:V→Rv)=>(Di 60 (V.weak t0) t3).bind fun a6=>(fA 60 58 4 a6).bind fun a7=>(BI [] 58 a7).bind fun a8=>(Cl 27 (AL [] [a8]) []).bind fun a9=>(un .not a9.1).bind fun a10=>V.ite a10 (a5 (V.bool true)) ((Di 60 (V.weak t0) t3).bind fun a11=>(fA 60 31 3 a11).bind fun a12=>(BI [] 31 a12).bind fun a13=>(D8 a13).bind fun a14=>(AO .gtr a14 (V.int .i64 20)).bind fun a15=>a5 a15)))
  ((D8 t0).bind fun a16=>(AO .leq a16 (V.int .i64 8)).bind fun a17=>AY 0 [] a17):=
 Ce (by kernel_rfl)
theorem AHC (t0:V):Cl 16 [t0] []=
 Rq t0 (V.int .i64 0):=
 BD (by kernel_rfl)
def NE (t7 t8 t39 t40 t41:V) (h:List V):Rv:=lp W 17 0 (cd 17 2431) (bk 0 (sk 17 0 511 (lv 17 0))) ⟨[(7,t7),(8,t8),(39,t39),(40,t40),(41,t41)],h⟩
def Rt (t7 t8 t10 t39 t40 t41 t57 t58 t59:V) (m0:Nat) (h:List V):Rv:=lp W 17 2 (cd 17 4954495) (bk 2 (sk 17 1 1022335 (bk 1 (sk 17 0 31103 (lk 17 0 m0 2431 (bk 0 (sk 17 0 511 (lv 17 0)))))))) ⟨[(7,t7),(8,t8),(10,t10),(39,t39),(40,t40),(41,t41),(57,t57),(58,t58),(59,t59)],h⟩
theorem QH (t7 t8 t10 t39 t40 t41 t57 t58 t59:V) (m0:Nat) (h:List V):Rt t7 t8 t10 t39 t40 t41 t57 t58 t59 m0 h=
 (AO .lss t59 t58).bind fun a26=>V.ite a26
  ((Di 9 t57 t59).bind fun a27=>(Ae h 9 a27).bind fun a28=>(Cl 48 (AP [t7,a28]) h).bind fun a29=>(AO .add t59 (V.int .i64 1)).bind fun a30=>Rt t7 t8 t10 t39 t40 t41 t57 t58 a30 m0 a29.2)
  ((fA 60 31 3 t10).bind fun a31=>(BI h 31 a31).bind fun a32=>(GK 108 (BJ 107) false h t8 a32).bind fun a33=>(AO .add t41 (V.int .i64 1)).bind fun a34=>if Ad m0 [t7,a33,t39,t40,a34]=true then NE t7 a33 t39 t40 a34 (List.take m0 h)else none):=
 Ce (by kernel_rfl)
theorem QI (t7 t8 t39 t40 t41:V) (h:List V):NE t7 t8 t39 t40 t41 h=
 (AO .lss t41 t40).bind fun a10=>V.ite a10
  ((Di 60 t39 t41).bind fun a11=>(BI h 60 a11).bind fun a12=>(DR (BJ 59) 60 (h++[(V.agg 59 [(V.int .i64 0),(V.int .i64 0),(V.agg 56 [(V.int .i64 0),(V.int .i64 0),(V.agg 54 (List.replicate 32 (V.int .u8 0))),(V.lst 55 .nil [])]),(V.lst 108 .nil []),(V.lst 9 .nil [])])]) (V.ref (List.length h) [] 60) a12).bind fun a13=>(fA 60 57 2 (V.ref (List.length h) [] 60)).bind fun a14=>(fA 57 55 2 a14).bind fun a15=>(Ae a13 55 a15).bind fun a16=>(Cl 47 (AP [t7,a16]) a13).bind fun a17=>(fA 60 58 4 (V.ref (List.length h) [] 60)).bind fun a18=>(BI a17.2 58 a18).bind fun a19=>(D8 a19).bind fun a20=>(F9 .u64 a20).bind fun a21=>(Cl 46 (AP [t7,a21]) a17.2).bind fun a22=>(fA 60 58 4 (V.ref (List.length h) [] 60)).bind fun a23=>(BI a22.2 58 a23).bind fun a24=>(D8 a24).bind fun a25=>Rt t7 t8 (V.ref (List.length h) [] 60) t39 t40 t41 a24 a25 (V.int .i64 0) (List.length h) a22.2)
  ((Cl 49 (AL h [t8]) []).bind fun a35=>(ext a35.1 0).bind fun a36=>(ext a35.1 1).bind fun a37=>(AO .neq a37 (V.int .i64 0)).bind fun a38=>V.ite a38
  (if(List.all [(V.int .i64 170),(V.str [])] V.okE)=true then AY 0 h (V.tup [(V.str []),(V.int .i64 170)])else none)
  ((Cl 48 (AP [t7,a36]) h).bind fun a39=>(Cl 50 (AP [t7]) a39.2).bind fun a40=>if(List.all [(V.int .i64 0),a40.1] V.okE)=true then AY 0 a40.2 (V.tup [a40.1,(V.int .i64 0)])else none)):=
 Ce (by kernel_rfl)
theorem Ru (t0 t1:V):Cl 17 [t0,t1] []=
 if((BJ 32) (V.weak t0)&&V.under 0 (V.weak t0))=true then jn (fun a1 a2=>
 V.ite a1
  (if(List.all [(V.int .i64 170),(V.str [])] V.okE)=true then AY 0 a2 (V.tup [(V.str []),(V.int .i64 170)])else none)
  ((Cl 45 (AP []) a2).bind fun a3=>(Cl 46 (AP [a3.1,(V.int .u64 65)]) a3.2).bind fun a4=>(fA 33 3 0 (V.ref 0 [] 33)).bind fun a5=>(Ae a4.2 3 a5).bind fun a6=>(F9 .u64 a6).bind fun a7=>(Cl 46 (AP [a3.1,a7]) a4.2).bind fun a8=>(D8 t1).bind fun a9=>NE a3.1 (V.weak (V.lst 108 .nil [])) t1 a9 (V.int .i64 0) a8.2)) (fun(a41:V→List V→Rv)=>(D8 (V.weak t1)).bind fun a42=>(fA 33 29 2 (V.ref 0 [] 33)).bind fun a43=>(BI [(V.weak t0)] 29 a43).bind fun a44=>(D8 a44).bind fun a45=>(AO .neq a42 a45).bind fun a46=>V.ite a46 (a41 (V.bool true) [(V.weak t0)]) ((Cl 44 (AP [(V.weak t1),(V.clo 43 [])]) [(V.weak t0)]).bind fun a47=>V.ite a47.1 (a41 (V.bool true) a47.2) ((fA 33 3 0 (V.ref 0 [] 33)).bind fun a48=>(Ae a47.2 3 a48).bind fun a49=>(AO .lss a49 (V.int .i64 0)).bind fun a50=>a41 a50 a47.2)))else none:=
 BD (by kernel_rfl)
def Rw (t1 t2 t3 t4:V) (h:List V):Rv:=lp W 18 0 (cd 18 75) (bk 0 (sk 18 0 15 (lv 18 0))) ⟨[(1,t1),(2,t2),(3,t3),(4,t4)],h⟩
theorem QJ (t1 t2 t3 t4:V) (h:List V):Rw t1 t2 t3 t4 h=
 (fA 33 30 3 t1).bind fun a17=>(BI h 30 a17).bind fun a18=>(D8 a18).bind fun a19=>(AO .lss t4 a19).bind fun a20=>V.ite a20
  (if(Tv t3 t1&&true)=true then(fA 33 30 3 t3).bind fun a21=>if IW t3 a21=true then(BR h 30 a21).bind fun a22=>(KX 9 false (ck [] [])).bind fun a23=>(fA 33 30 3 t1).bind fun a24=>if IW t1 a24=true then(BI a22.2 30 a24).bind fun a25=>(Di 58 a25 t4).bind fun a26=>if J3 true [a26]=true then(BI a22.2 58 a26).bind fun a27=>if J3 true [a23,a27]=true then(GK 9 tyS false a22.2 a23 a27).bind fun a28=>(KX 58 true (ck [(Pq 9) a28] [(V.weak a28)])).bind fun a29=>(GK 58 (Pq 9) true a22.2 a22.1 a29).bind fun a30=>(fA 33 30 3 t3).bind fun a31=>(DR (Pq 58) 30 a22.2 a31 a30).bind fun a32=>(AO .add t4 (V.int .i64 1)).bind fun a33=>Rw t1 t2 t3 a33 a32 else none else none else none else none else none)
  ((BI h 33 t3).bind fun a34=>(DR (BJ 32) 33 h t2 a34).bind fun a35=>(BI a35 33 t2).bind fun a36=>AY 0 a35 a36):=
 Ce (by kernel_rfl)
theorem AHD (t0:V):Cl 18 [t0] []=
 if((BJ 32) (V.weak t0)&&V.under 0 (V.weak t0))=true then(fA 33 3 0 (V.ref 0 [] 33)).bind fun a1=>(Ae [(V.weak t0),(V.agg 32 [(V.int .i64 0),(V.lst 4 .nil []),(V.lst 55 .nil []),(V.lst 58 .nil []),(V.lst 108 .nil [])])] 3 a1).bind fun a2=>(KX 4 false (ck [] [])).bind fun a3=>(fA 33 28 1 (V.ref 0 [] 33)).bind fun a4=>(BI [(V.weak t0),(V.agg 32 [(V.int .i64 0),(V.lst 4 .nil []),(V.lst 55 .nil []),(V.lst 58 .nil []),(V.lst 108 .nil [])])] 28 a4).bind fun a5=>if J3 true [a3,a5]=true then(GK 4 tyB false [(V.weak t0),(V.agg 32 [(V.int .i64 0),(V.lst 4 .nil []),(V.lst 55 .nil []),(V.lst 58 .nil []),(V.lst 108 .nil [])])] a3 a5).bind fun a6=>(KX 55 false (ck [] [])).bind fun a7=>(fA 33 29 2 (V.ref 0 [] 33)).bind fun a8=>(BI [(V.weak t0),(V.agg 32 [(V.int .i64 0),(V.lst 4 .nil []),(V.lst 55 .nil []),(V.lst 58 .nil []),(V.lst 108 .nil [])])] 29 a8).bind fun a9=>if J3 true [a7,a9]=true then(GK 55 (BJ 54) false [(V.weak t0),(V.agg 32 [(V.int .i64 0),(V.lst 4 .nil []),(V.lst 55 .nil []),(V.lst 58 .nil []),(V.lst 108 .nil [])])] a7 a9).bind fun a10=>(KX 108 false (ck [] [])).bind fun a11=>(fA 33 31 4 (V.ref 0 [] 33)).bind fun a12=>(BI [(V.weak t0),(V.agg 32 [(V.int .i64 0),(V.lst 4 .nil []),(V.lst 55 .nil []),(V.lst 58 .nil []),(V.lst 108 .nil [])])] 31 a12).bind fun a13=>if J3 true [a11,a13]=true then(GK 108 (BJ 107) false [(V.weak t0),(V.agg 32 [(V.int .i64 0),(V.lst 4 .nil []),(V.lst 55 .nil []),(V.lst 58 .nil []),(V.lst 108 .nil [])])] a11 a13).bind fun a14=>((ck [(Ph .i64) a2,(Pq 4) a6,(Pq 55) a10,(Pq 108) a14] [a2,(V.weak a6),(V.weak a10),(V.lst 58 .nil []),(V.weak a14)]).map (.agg 32)).bind fun a15=>(DR (BJ 32) 33 [(V.weak t0),(V.agg 32 [(V.int .i64 0),(V.lst 4 .nil []),(V.lst 55 .nil []),(V.lst 58 .nil []),(V.lst 108 .nil [])]),(V.agg 32 [(V.int .i64 0),(V.lst 4 .nil []),(V.lst 55 .nil []),(V.lst 58 .nil []),(V.lst 108 .nil [])])] (V.ref 2 [] 33) a15).bind fun a16=>Rw (V.ref 0 [] 33) (V.ref 1 [] 33) (V.ref 2 [] 33) (V.int .i64 0) a16 else none else none else none else none:=
 BD (JP<|AG6 ⟨[(1,(V.ref 0 [] 33)),(2,(V.ref 1 [] 33))],[(V.weak t0),(V.agg 32 [(V.int .i64 0),(V.lst 4 .nil []),(V.lst 55 .nil []),(V.lst 58 .nil []),(V.lst 108 .nil [])])]⟩ (F:=fun r=>if((BJ 32) (V.weak t0)&&V.under 0 (V.weak t0))=true then r else none) (by kernel_rfl))
def NF (t1 t6 t7 t8:V) (h:List V):Rv:=lp W 19 0 (cd 19 151) (bk 0 (sk 19 0 31 (lv 19 0))) ⟨[(1,t1),(6,t6),(7,t7),(8,t8)],h⟩
def Rx (t1 t6 t7 t8 t10:V) (m0:Nat) (h:List V):Rv:=lp W 19 2 (cd 19 154775) (bk 2 (sk 19 1 31895 (bk 1 (sk 19 0 919 (lk 19 0 m0 151 (bk 0 (sk 19 0 31 (lv 19 0)))))))) ⟨[(1,t1),(6,t6),(7,t7),(8,t8),(10,t10)],h⟩
theorem QK (t1 t6 t7 t8 t10:V) (m0:Nat) (h:List V):Rx t1 t6 t7 t8 t10 m0 h=
 (Di 60 (V.weak t1) t8).bind fun a29=>(fA 60 58 4 a29).bind fun a30=>(BI h 58 a30).bind fun a31=>(D8 a31).bind fun a32=>(AO .lss t10 a32).bind fun a33=>V.ite a33
  ((Di 60 (V.weak t1) t8).bind fun a34=>(fA 60 58 4 a34).bind fun a35=>(BI h 58 a35).bind fun a36=>(Di 9 a36 t10).bind fun a37=>(Ae h 9 a37).bind fun a38=>(Cl 52 (AL h [a38]) []).bind fun a39=>(AO .add t6 a39.1).bind fun a40=>(AO .add t10 (V.int .i64 1)).bind fun a41=>Rx t1 a40 t7 t8 a41 m0 h)
  ((Di 60 (V.weak t1) t8).bind fun a42=>(fA 60 31 3 a42).bind fun a43=>(BI h 31 a43).bind fun a44=>(GK 108 (BJ 107) false h t7 a44).bind fun a45=>(AO .add t8 (V.int .i64 1)).bind fun a46=>if Ad m0 [t1,t6,a45,a46]=true then NF t1 t6 a45 a46 (List.take m0 h)else none):=
 Ce (by kernel_rfl)
theorem Hy (t1 t6 t7 t8:V) (h:List V):NF t1 t6 t7 t8 h=
 (D8 (V.weak t1)).bind fun a8=>(AO .lss t8 a8).bind fun a9=>V.ite a9
  ((Di 60 (V.weak t1) t8).bind fun a10=>(fA 60 34 0 a10).bind fun a11=>(Ae h 34 a11).bind fun a12=>(AO .neq a12 (V.int .i64 0)).bind fun a13=>V.ite a13
  (if(List.all [(V.bool false),(V.str [])] V.okE)=true then AY 0 h (V.tup [(V.str []),(V.bool false)])else none)
  ((Di 60 (V.weak t1) t8).bind fun a14=>(fA 60 57 2 a14).bind fun a15=>(fA 57 55 2 a15).bind fun a16=>(Ae h 55 a16).bind fun a17=>(DR (BJ 54) 55 (h++[(V.agg 54 (List.replicate 32 (V.int .u8 0)))]) (V.ref (List.length h) [] 55) a17).bind fun a18=>(slA 55 54 32 5 (V.ref (List.length h) [] 55) none none none).bind fun a19=>(cvT a18 a19).bind fun a20=>(Di 60 (V.weak t1) t8).bind fun a21=>(fA 60 58 4 a21).bind fun a22=>(BI a18 58 a22).bind fun a23=>(D8 a23).bind fun a24=>(F9 .u64 a24).bind fun a25=>(Cl 51 (AL a18 [a25]) []).bind fun a26=>(AO .add a20 a26.1).bind fun a27=>(AO .add t6 a27).bind fun a28=>Rx t1 a28 t7 t8 (V.int .i64 0) (List.length h) a18))
  ((Cl 26 (AL h [(V.weak t7)]) []).bind fun a47=>(un .not a47.1).bind fun a48=>V.ite a48
  (if(List.all [(V.bool false),(V.str [])] V.okE)=true then AY 0 h (V.tup [(V.str []),(V.bool false)])else none)
  ((Cl 53 (AL h [t7]) []).bind fun a49=>(Cl 52 (AL h [a49.1]) []).bind fun a50=>(AO .add t6 a50.1).bind fun a51=>if(List.all [(V.bool true),a51] V.okE)=true then AY 0 h (V.tup [a51,(V.bool true)])else none)):=
 Ce (by kernel_rfl)
theorem WT (t0 t1:V):Cl 19 [t0,t1] []=
 if((BJ 32) (V.weak t0)&&V.under 0 (V.weak t0))=true then jn (fun a1=>
 V.ite a1
  (if(List.all [(V.bool false),(V.str [])] V.okE)=true then AY 0 [(V.weak t0)] (V.tup [(V.str []),(V.bool false)])else none)
  ((fA 33 3 0 (V.ref 0 [] 33)).bind fun a2=>(Ae [(V.weak t0)] 3 a2).bind fun a3=>(F9 .u64 a3).bind fun a4=>(Cl 51 (AL [(V.weak t0)] [a4]) []).bind fun a5=>(AO .add (V.str [65]) a5.1).bind fun a6=>(KX 108 false (ck [] [])).bind fun a7=>NF t1 a6 a7 (V.int .i64 0) [(V.weak t0)])) (fun(a52:V→Rv)=>(D8 (V.weak t1)).bind fun a53=>(fA 33 29 2 (V.ref 0 [] 33)).bind fun a54=>(BI [(V.weak t0)] 29 a54).bind fun a55=>(D8 a55).bind fun a56=>(AO .neq a53 a56).bind fun a57=>V.ite a57 (a52 (V.bool true)) ((fA 33 3 0 (V.ref 0 [] 33)).bind fun a58=>(Ae [(V.weak t0)] 3 a58).bind fun a59=>(AO .lss a59 (V.int .i64 0)).bind fun a60=>a52 a60))else none:=
 BD (by kernel_rfl)
theorem Ry (t0 t1:V):Cl 20 [t0,t1] []=
 if((BJ 32) (V.weak t0)&&V.under 0 (V.weak t0))=true then jn (fun a1=>
 V.ite a1
  (if(List.all [(V.int .i64 170),(V.str [])] V.okE)=true then AY 0 [(V.weak t0)] (V.tup [(V.str []),(V.int .i64 170)])else none)
  ((Cl 45 (AP []) [(V.weak t0)]).bind fun a2=>(Cl 46 (AP [a2.1,(V.int .u64 69)]) a2.2).bind fun a3=>(F9 .u64 t1).bind fun a4=>(Cl 46 (AP [a2.1,a4]) a3.2).bind fun a5=>(Cl 50 (AP [a2.1]) a5.2).bind fun a6=>if(List.all [(V.int .i64 0),a6.1] V.okE)=true then AY 0 a6.2 (V.tup [a6.1,(V.int .i64 0)])else none)) (fun(a7:V→Rv)=>(AO .lss t1 (V.int .i64 0)).bind fun a8=>V.ite a8 (a7 (V.bool true)) ((fA 33 28 1 (V.ref 0 [] 33)).bind fun a9=>(BI [(V.weak t0)] 28 a9).bind fun a10=>(D8 a10).bind fun a11=>(AO .geq t1 a11).bind fun a12=>V.ite a12 (a7 (V.bool true)) ((fA 33 28 1 (V.ref 0 [] 33)).bind fun a13=>(BI [(V.weak t0)] 28 a13).bind fun a14=>(Di 4 a14 t1).bind fun a15=>(Ae [(V.weak t0)] 4 a15).bind fun a16=>a7 a16)))else none:=
 BD (by kernel_rfl)
theorem Rz (t0 t1:V):Cl 21 [t0,t1] []=
 if((BJ 32) (V.weak t0)&&V.under 0 (V.weak t0))=true then jn (fun a1=>
 V.ite a1
  (if(List.all [(V.bool false),(V.str [])] V.okE)=true then AY 0 [(V.weak t0)] (V.tup [(V.str []),(V.bool false)])else none)
  ((F9 .u64 t1).bind fun a2=>(Cl 51 (AL [(V.weak t0)] [a2]) []).bind fun a3=>(AO .add (V.str [69]) a3.1).bind fun a4=>if(List.all [(V.bool true),a4] V.okE)=true then AY 0 [(V.weak t0)] (V.tup [a4,(V.bool true)])else none)) (fun(a5:V→Rv)=>(AO .lss t1 (V.int .i64 0)).bind fun a6=>V.ite a6 (a5 (V.bool true)) ((fA 33 28 1 (V.ref 0 [] 33)).bind fun a7=>(BI [(V.weak t0)] 28 a7).bind fun a8=>(D8 a8).bind fun a9=>(AO .geq t1 a9).bind fun a10=>V.ite a10 (a5 (V.bool true)) ((fA 33 28 1 (V.ref 0 [] 33)).bind fun a11=>(BI [(V.weak t0)] 28 a11).bind fun a12=>(Di 4 a12 t1).bind fun a13=>(Ae [(V.weak t0)] 4 a13).bind fun a14=>a5 a14)))else none:=
 BD (by kernel_rfl)
theorem WU (t0 t1 t2 t3:V):Cl 23 [t0,t1,t2,t3] []=
 if((BJ 23) (V.weak t0)&&V.under 0 (V.weak t0))=true then if((BJ 25) t1&&V.under 1 t1)=true then if((BJ 32) (V.weak t2)&&V.under 2 (V.weak t2))=true then(BI [(V.weak t0),t1,(V.weak t2),(V.agg 32 [(V.int .i64 0),(V.lst 4 .nil []),(V.lst 55 .nil []),(V.lst 58 .nil []),(V.lst 108 .nil [])])] 24 (V.ref 0 [] 24)).bind fun a1=>(Ae [(V.weak t0),t1,(V.weak t2),(V.agg 32 [(V.int .i64 0),(V.lst 4 .nil []),(V.lst 55 .nil []),(V.lst 58 .nil []),(V.lst 108 .nil [])])] 26 (V.ref 1 [] 26)).bind fun a2=>(fA 33 28 1 (V.ref 2 [] 33)).bind fun a3=>(BI [(V.weak t0),t1,(V.weak t2),(V.agg 32 [(V.int .i64 0),(V.lst 4 .nil []),(V.lst 55 .nil []),(V.lst 58 .nil []),(V.lst 108 .nil [])])] 28 a3).bind fun a4=>(D8 a4).bind fun a5=>(Cl 10 (AL [(V.weak t0),t1,(V.weak t2),(V.agg 32 [(V.int .i64 0),(V.lst 4 .nil []),(V.lst 55 .nil []),(V.lst 58 .nil []),(V.lst 108 .nil [])])] [a1,a2,a5]) []).bind fun a6=>(GU a6.1 0).bind fun a7=>(ext a6.1 1).bind fun a8=>(DR (BJ 32) 33 [(V.weak t0),t1,(V.weak t2),(V.agg 32 [(V.int .i64 0),(V.lst 4 .nil []),(V.lst 55 .nil []),(V.lst 58 .nil []),(V.lst 108 .nil [])]),(V.agg 32 [(V.int .i64 0),(V.lst 4 .nil []),(V.lst 55 .nil []),(V.lst 58 .nil []),(V.lst 108 .nil [])])] (V.ref 4 [] 33) a7).bind fun a9=>jn (fun a10=>
 V.ite a10
  (((ck [] [(V.int .i64 0),(V.lst 4 .nil []),(V.lst 55 .nil []),(V.lst 58 .nil []),(V.lst 108 .nil [])]).map (.agg 32)).bind fun a11=>(DR (BJ 32) 33 a9 (V.ref 3 [] 33) a11).bind fun a12=>(BI a12 33 (V.ref 3 [] 33)).bind fun a13=>if(List.all [(V.int .i64 171),a13] V.okE)=true then AY 0 a12 (V.tup [a13,(V.int .i64 171)])else none)
  ((Cl 54 (AP [t3]) a9).bind fun a14=>((ck [] [(V.int .i64 0),(V.lst 4 .nil []),(V.lst 55 .nil []),(V.lst 58 .nil []),(V.lst 108 .nil [])]).map (.agg 32)).bind fun a15=>(DR (BJ 32) 33 (a14.2++[(V.agg 32 [(V.int .i64 0),(V.lst 4 .nil []),(V.lst 55 .nil []),(V.lst 58 .nil []),(V.lst 108 .nil [])])]) (V.ref (List.length a14.2) [] 33) a15).bind fun a16=>(Cl 55 (AP [a14.1]) a16).bind fun a17=>(AO .eql a17.1 (V.int .u64 65)).bind fun a18=>V.ite a18
  ((Ae a17.2 26 (V.ref 1 [] 26)).bind fun a19=>(BI a17.2 33 (V.ref 2 [] 33)).bind fun a20=>(Cl 56 (AP [a19,a20,a14.1]) a17.2).bind fun a21=>(GU a21.1 0).bind fun a22=>(ext a21.1 1).bind fun a23=>(DR (BJ 32) 33 a21.2 (V.ref (List.length a14.2) [] 33) a22).bind fun a24=>(un .not a23).bind fun a25=>V.ite a25
  (((ck [] [(V.int .i64 0),(V.lst 4 .nil []),(V.lst 55 .nil []),(V.lst 58 .nil []),(V.lst 108 .nil [])]).map (.agg 32)).bind fun a26=>(DR (BJ 32) 33 a24 (V.ref 3 [] 33) a26).bind fun a27=>(BI a27 33 (V.ref 3 [] 33)).bind fun a28=>if(List.all [(V.int .i64 171),a28] V.okE)=true then AY 0 a27 (V.tup [a28,(V.int .i64 171)])else none)
  ((BI a24 33 (V.ref (List.length a14.2) [] 33)).bind fun a29=>(DR (BJ 32) 33 a24 (V.ref 3 [] 33) a29).bind fun a30=>(BI a30 33 (V.ref 3 [] 33)).bind fun a31=>if(List.all [(V.int .i64 0),a31] V.okE)=true then AY 0 a30 (V.tup [a31,(V.int .i64 0)])else none))
  ((AO .eql a17.1 (V.int .u64 69)).bind fun a32=>V.ite a32
  ((BI a17.2 24 (V.ref 0 [] 24)).bind fun a33=>(Ae a17.2 26 (V.ref 1 [] 26)).bind fun a34=>(BI a17.2 33 (V.ref 2 [] 33)).bind fun a35=>(Cl 57 (AP [a33,a34,a35,a14.1]) a17.2).bind fun a36=>(GU a36.1 0).bind fun a37=>(ext a36.1 1).bind fun a38=>(DR (BJ 32) 33 a36.2 (V.ref (List.length a14.2) [] 33) a37).bind fun a39=>(un .not a38).bind fun a40=>V.ite a40
  (((ck [] [(V.int .i64 0),(V.lst 4 .nil []),(V.lst 55 .nil []),(V.lst 58 .nil []),(V.lst 108 .nil [])]).map (.agg 32)).bind fun a41=>(DR (BJ 32) 33 a39 (V.ref 3 [] 33) a41).bind fun a42=>(BI a42 33 (V.ref 3 [] 33)).bind fun a43=>if(List.all [(V.int .i64 171),a43] V.okE)=true then AY 0 a42 (V.tup [a43,(V.int .i64 171)])else none)
  ((BI a39 33 (V.ref (List.length a14.2) [] 33)).bind fun a44=>(DR (BJ 32) 33 a39 (V.ref 3 [] 33) a44).bind fun a45=>(BI a45 33 (V.ref 3 [] 33)).bind fun a46=>if(List.all [(V.int .i64 0),a46] V.okE)=true then AY 0 a45 (V.tup [a46,(V.int .i64 0)])else none))
  ((un .not (V.bool false)).bind fun a47=>V.ite a47
  (((ck [] [(V.int .i64 0),(V.lst 4 .nil []),(V.lst 55 .nil []),(V.lst 58 .nil []),(V.lst 108 .nil [])]).map (.agg 32)).bind fun a48=>(DR (BJ 32) 33 a17.2 (V.ref 3 [] 33) a48).bind fun a49=>(BI a49 33 (V.ref 3 [] 33)).bind fun a50=>if(List.all [(V.int .i64 171),a50] V.okE)=true then AY 0 a49 (V.tup [a50,(V.int .i64 171)])else none)
  ((BI a17.2 33 (V.ref (List.length a14.2) [] 33)).bind fun a51=>(DR (BJ 32) 33 a17.2 (V.ref 3 [] 33) a51).bind fun a52=>(BI a52 33 (V.ref 3 [] 33)).bind fun a53=>if(List.all [(V.int .i64 0),a53] V.okE)=true then AY 0 a52 (V.tup [a53,(V.int .i64 0)])else none))))) (fun(a54:V→Rv)=>(AO .neq a8 (V.int .i64 0)).bind fun a55=>V.ite a55 (a54 (V.bool true)) ((fA 33 29 2 (V.ref 2 [] 33)).bind fun a56=>(BI a9 29 a56).bind fun a57=>(D8 a57).bind fun a58=>(fA 33 28 1 (V.ref 2 [] 33)).bind fun a59=>(BI a9 28 a59).bind fun a60=>(D8 a60).bind fun a61=>(AO .neq a58 a61).bind fun a62=>a54 a62))else none else none else none:=
 BD (by kernel_rfl)
def NG (t0 t3:V) (h:List V):Rv:=lp W 26 0 (cd 26 37) (bk 0 (sk 26 0 7 (lv 26 0))) ⟨[(0,t0),(3,t3)],h⟩
def SA (t0 t3 t4 t5:V) (m0:Nat) (h:List V):Rv:=lp W 26 2 (cd 26 10021) (bk 2 (bk 1 (sk 26 0 229 (lk 26 0 m0 37 (bk 0 (sk 26 0 7 (lv 26 0))))))) ⟨[(0,t0),(3,t3),(4,t4),(5,t5)],h⟩
theorem QL (t0 t3 t4 t5:V) (m0:Nat) (h:List V):SA t0 t3 t4 t5 m0 h=
 (AO .lss t5 t3).bind fun a7=>V.ite a7
  (jn (fun a8=>
 V.ite a8
  (AY 0 h (V.bool false))
  ((AO .add t5 (V.int .i64 1)).bind fun a9=>SA t0 t3 t4 a9 m0 h)) (fun(a10:V→Rv)=>(Di 108 (V.weak t0) t5).bind fun a11=>(fA 108 3 0 a11).bind fun a12=>(Ae h 3 a12).bind fun a13=>(fA 108 3 0 t4).bind fun a14=>(Ae h 3 a14).bind fun a15=>(AO .eql a13 a15).bind fun a16=>V.ite a16 ((Di 108 (V.weak t0) t5).bind fun a17=>(fA 108 3 1 a17).bind fun a18=>(Ae h 3 a18).bind fun a19=>(fA 108 3 1 t4).bind fun a20=>(Ae h 3 a20).bind fun a21=>(AO .eql a19 a21).bind fun a22=>a10 a22) (a10 (V.bool false))))
  ((AO .add t3 (V.int .i64 1)).bind fun a23=>if Ad m0 [t0,a23]=true then NG t0 a23 (List.take m0 h)else none):=
 Ce (by kernel_rfl)
theorem QM (t0 t3:V) (h:List V):NG t0 t3 h=
 (D8 (V.weak t0)).bind fun a1=>(AO .lss t3 a1).bind fun a2=>V.ite a2
  ((Di 108 (V.weak t0) t3).bind fun a3=>(Ae h 108 a3).bind fun a4=>(DR (BJ 107) 108 (h++[(V.agg 107 [(V.int .i64 0),(V.int .i64 0),(V.int .i64 0)])]) (V.ref (List.length h) [] 108) a4).bind fun a5=>jn (fun a6=>
 V.ite a6
  (AY 0 a5 (V.bool false))
  (SA t0 t3 (V.ref (List.length h) [] 108) (V.int .i64 0) (List.length h) a5)) (fun(a24:V→Rv)=>(fA 108 3 0 (V.ref (List.length h) [] 108)).bind fun a25=>(Ae a5 3 a25).bind fun a26=>(AO .lss a26 (V.int .i64 0)).bind fun a27=>V.ite a27 (a24 (V.bool true)) ((fA 108 3 0 (V.ref (List.length h) [] 108)).bind fun a28=>(Ae a5 3 a28).bind fun a29=>(AO .gtr a29 (V.int .i64 63)).bind fun a30=>V.ite a30 (a24 (V.bool true)) ((fA 108 3 1 (V.ref (List.length h) [] 108)).bind fun a31=>(Ae a5 3 a31).bind fun a32=>(AO .lss a32 (V.int .i64 0)).bind fun a33=>V.ite a33 (a24 (V.bool true)) ((fA 108 3 1 (V.ref (List.length h) [] 108)).bind fun a34=>(Ae a5 3 a34).bind fun a35=>(AO .gtr a35 (V.int .i64 63)).bind fun a36=>V.ite a36 (a24 (V.bool true)) ((fA 108 2 2 (V.ref (List.length h) [] 108)).bind fun a37=>(Ae a5 2 a37).bind fun a38=>(Cl 58 (AL a5 [a38]) []).bind fun a39=>a24 a39.1))))))
  ((D8 t0).bind fun a40=>(AO .leq a40 (V.int .i64 512)).bind fun a41=>AY 0 h a41):=
 Ce (by kernel_rfl)
theorem AHE (t0:V):Cl 26 [t0] []=
 NG t0 (V.int .i64 0) []:=
 BD (by kernel_rfl)
def SB (t0 t3:V):Rv:=lp W 27 0 (cd 27 37) (bk 0 (sk 27 0 7 (lv 27 0))) ⟨[(0,t0),(3,t3)],[]⟩
theorem J5 (t0 t3:V):SB t0 t3=
 (D8 (V.weak t0)).bind fun a1=>(AO .lss t3 a1).bind fun a2=>V.ite a2
  ((Di 9 (V.weak t0) t3).bind fun a3=>(Ae [] 9 a3).bind fun a4=>(lnS a4).bind fun a5=>(AO .gtr a5 (V.int .i64 300)).bind fun a6=>V.ite a6
  (AY 0 [] (V.bool false))
  ((AO .add t3 (V.int .i64 1)).bind fun a7=>SB t0 a7))
  ((D8 t0).bind fun a8=>(AO .leq a8 (V.int .i64 12)).bind fun a9=>AY 0 [] a9):=
 Ce (by kernel_rfl)
theorem AHF (t0:V):Cl 27 [t0] []=
 SB t0 (V.int .i64 0):=
 BD (by kernel_rfl)
def WV (t3 t4 t5 t8 t11 t28 t29 t30:V) (h:List V):Rv:=lp W 28 0 (cd 28 151) (bk 0 (sk 28 0 31 (lv 28 0))) ⟨[(3,t3),(4,t4),(5,t5),(8,t8),(11,t11),(28,t28),(29,t29),(30,t30)],h⟩
theorem J6 (t3 t4 t5 t8 t11 t28 t29 t30:V) (h:List V):WV t3 t4 t5 t8 t11 t28 t29 t30 h=
 (AO .lss t30 t29).bind fun a12=>V.ite a12
  ((Di 9 t28 t30).bind fun a13=>(Ae h 9 a13).bind fun a14=>(BI h 24 t4).bind fun a15=>(Ae h 26 t5).bind fun a16=>(BI h 33 t11).bind fun a17=>(Cl 23 (AL h [a15,a16,a17,a14]) []).bind fun a18=>(GU a18.1 0).bind fun a19=>(ext a18.1 1).bind fun a20=>(DR (BJ 32) 33 (h++[(V.agg 32 [(V.int .i64 0),(V.lst 4 .nil []),(V.lst 55 .nil []),(V.lst 58 .nil []),(V.lst 108 .nil [])])]) (V.ref (List.length h) [] 33) a19).bind fun a21=>(AO .neq a20 (V.int .i64 0)).bind fun a22=>V.ite a22
  ((BI a21 33 t11).bind fun a23=>(DR (BJ 32) 33 a21 t8 a23).bind fun a24=>(BI a24 33 t8).bind fun a25=>if(List.all [(V.int .i64 0),t30,a25] V.okE)=true then AY 0 a24 (V.tup [a25,t30,(V.int .i64 0)])else none)
  ((BI a21 33 (V.ref (List.length h) [] 33)).bind fun a26=>(DR (BJ 32) 33 a21 t11 a26).bind fun a27=>(AO .add t30 (V.int .i64 1)).bind fun a28=>if Ad (List.length h) [t3,t4,t5,t8,t11,t28,t29,a28]=true then WV t3 t4 t5 t8 t11 t28 t29 a28 (List.take (List.length h) a27)else none))
  ((BI h 33 t11).bind fun a29=>(D8 t3).bind fun a30=>(DR (BJ 32) 33 h t8 a29).bind fun a31=>(BI a31 33 t8).bind fun a32=>if(List.all [(V.int .i64 0),a30,a32] V.okE)=true then AY 0 a31 (V.tup [a32,a30,(V.int .i64 0)])else none):=
 Ce (by kernel_rfl)
theorem AHG (t0 t1 t2 t3:V):Cl 28 [t0,t1,t2,t3] []=
 if((BJ 23) (V.weak t0)&&V.under 0 (V.weak t0))=true then if((BJ 25) t1&&V.under 1 t1)=true then(BI [(V.weak t0),t1,(V.agg 32 [(V.int .i64 0),(V.lst 4 .nil []),(V.lst 55 .nil []),(V.lst 58 .nil []),(V.lst 108 .nil [])])] 24 (V.ref 0 [] 24)).bind fun a1=>(Ae [(V.weak t0),t1,(V.agg 32 [(V.int .i64 0),(V.lst 4 .nil []),(V.lst 55 .nil []),(V.lst 58 .nil []),(V.lst 108 .nil [])])] 26 (V.ref 1 [] 26)).bind fun a2=>(Cl 10 (AL [(V.weak t0),t1,(V.agg 32 [(V.int .i64 0),(V.lst 4 .nil []),(V.lst 55 .nil []),(V.lst 58 .nil []),(V.lst 108 .nil [])])] [a1,a2,t2]) []).bind fun a3=>(GU a3.1 0).bind fun a4=>(ext a3.1 1).bind fun a5=>(DR (BJ 32) 33 [(V.weak t0),t1,(V.agg 32 [(V.int .i64 0),(V.lst 4 .nil []),(V.lst 55 .nil []),(V.lst 58 .nil []),(V.lst 108 .nil [])]),(V.agg 32 [(V.int .i64 0),(V.lst 4 .nil []),(V.lst 55 .nil []),(V.lst 58 .nil []),(V.lst 108 .nil [])])] (V.ref 3 [] 33) a4).bind fun a6=>(AO .neq a5 (V.int .i64 0)).bind fun a7=>V.ite a7
  (((ck [] [(V.int .i64 0),(V.lst 4 .nil []),(V.lst 55 .nil []),(V.lst 58 .nil []),(V.lst 108 .nil [])]).map (.agg 32)).bind fun a8=>(DR (BJ 32) 33 a6 (V.ref 2 [] 33) a8).bind fun a9=>(BI a9 33 (V.ref 2 [] 33)).bind fun a10=>if(List.all [a5,(V.int .i64 0),a10] V.okE)=true then AY 0 a9 (V.tup [a10,(V.int .i64 0),a5])else none)
  ((D8 (V.weak t3)).bind fun a11=>WV t3 (V.ref 0 [] 24) (V.ref 1 [] 26) (V.ref 2 [] 33) (V.ref 3 [] 33) (V.weak t3) a11 (V.int .i64 0) a6)else none else none:=
 BD (by kernel_rfl)
theorem AHH (t0 t1:V):Cl 32 [t0,t1] []=
 if((BJ 23) (V.weak t0)&&V.under 0 (V.weak t0))=true then if((BJ 25) t1&&V.under 1 t1)=true then jn (fun a1=>
 V.ite a1
  (AY 0 [(V.weak t0),t1] (V.int .i64 70))
  (AY 0 [(V.weak t0),t1] (V.int .i64 0))) (fun(a2:V→Rv)=>(BI [(V.weak t0),t1] 24 (V.ref 0 [] 24)).bind fun a3=>(Cl 61 (AL [(V.weak t0),t1] [a3]) []).bind fun a4=>(AO .neq a4.1 (V.int .i64 0)).bind fun a5=>V.ite a5 (a2 (V.bool true)) ((fA 26 9 0 (V.ref 1 [] 26)).bind fun a6=>(Ae [(V.weak t0),t1] 9 a6).bind fun a7=>(Cl 62 (AL [(V.weak t0),t1] [a7]) []).bind fun a8=>(un .not a8.1).bind fun a9=>V.ite a9 (a2 (V.bool true)) ((fA 26 3 1 (V.ref 1 [] 26)).bind fun a10=>(Ae [(V.weak t0),t1] 3 a10).bind fun a11=>(AO .lss a11 (V.int .i64 0)).bind fun a12=>V.ite a12 (a2 (V.bool true)) ((fA 26 3 1 (V.ref 1 [] 26)).bind fun a13=>(Ae [(V.weak t0),t1] 3 a13).bind fun a14=>(fA 24 3 0 (V.ref 0 [] 24)).bind fun a15=>(Ae [(V.weak t0),t1] 3 a15).bind fun a16=>(AO .geq a14 a16).bind fun a17=>V.ite a17 (a2 (V.bool true)) ((fA 26 3 2 (V.ref 1 [] 26)).bind fun a18=>(Ae [(V.weak t0),t1] 3 a18).bind fun a19=>(AO .lss a19 (V.int .i64 1)).bind fun a20=>V.ite a20 (a2 (V.bool true)) ((fA 26 3 2 (V.ref 1 [] 26)).bind fun a21=>(Ae [(V.weak t0),t1] 3 a21).bind fun a22=>(AO .gtr a22 (V.int .i64 64)).bind fun a23=>a2 a23))))))else none else none:=
 BD (by kernel_rfl)
def NH (t8 t9 t25 t26:V) (h:List V):Rv:=lp W 33 0 (cd 33 303) (bk 0 (sk 33 0 63 (lv 33 0))) ⟨[(8,t8),(9,t9),(25,t25),(26,t26)],h⟩
theorem QN (t8 t9 t25 t26:V) (h:List V):NH t8 t9 t25 t26 h=
 (AO .lss t26 t25).bind fun a3=>V.ite a3
  (CP P D9 W t8 [t26] h fun a4 a5=>if V.noOwn a4=true then V.ite a4
  ((KX 3 false (ck [(Ph .i64) t26] [t26])).bind fun a6=>(GK 3 (Ph .i64) false a5 t9 a6).bind fun a7=>(AO .add t26 (V.int .i64 1)).bind fun a8=>NH t8 a7 t25 a8 a5)
  ((AO .add t26 (V.int .i64 1)).bind fun a9=>NH t8 t9 t25 a9 a5)else none)
  (if(List.all [(V.int .i64 0),t9] V.okE)=true then AY 0 h (V.tup [t9,(V.int .i64 0)])else none):=
 Ce (by kernel_rfl)
theorem AHI (t0 t1 t2:V):Cl 33 [t0,t1,t2] []=
 if((Ph .i64) t1&&V.under 0 t1)=true then if((Ph .i64) t2&&V.under 1 t2)=true then jn (fun a1=>
 V.ite a1
  (if(List.all [(V.int .i64 60),(V.weak (V.lst 3 .nil []))] V.okE)=true then AY 0 [t1,t2] (V.tup [(V.weak (V.lst 3 .nil [])),(V.int .i64 60)])else none)
  ((if(List.all [(V.ref 0 [] 3),(V.ref 1 [] 3)] V.capOk)=true then some (V.clo 64 [(V.ref 0 [] 3),(V.ref 1 [] 3)])else none).bind fun a2=>NH a2 (V.weak (V.lst 3 .nil [])) t0 (V.int .i64 0) [t1,t2])) (fun(a10:V→Rv)=>(Ae [t1,t2] 3 (V.ref 0 [] 3)).bind fun a11=>(Cl 63 (AL [t1,t2] [t0,a11]) []).bind fun a12=>(un .not a12.1).bind fun a13=>V.ite a13 (a10 (V.bool true)) ((Ae [t1,t2] 3 (V.ref 1 [] 3)).bind fun a14=>(AO .lss a14 (V.int .i64 0)).bind fun a15=>V.ite a15 (a10 (V.bool true)) ((Ae [t1,t2] 3 (V.ref 1 [] 3)).bind fun a16=>(Ae [t1,t2] 3 (V.ref 0 [] 3)).bind fun a17=>(AO .geq a16 a17).bind fun a18=>a10 a18)))else none else none:=
 BD (by kernel_rfl)
theorem AHJ (t0 t1:V):Cl 34 [t0,t1] []=
 if((BJ 25) t0&&V.under 0 t0)=true then(fA 26 9 0 (V.ref 0 [] 26)).bind fun a1=>(Ae [t0,(V.agg 80 [(V.int .i64 0),(V.int .i64 0),(V.bool false),(V.bool false),(V.int .i64 0)])] 9 a1).bind fun a2=>(Cl 62 (AL [t0,(V.agg 80 [(V.int .i64 0),(V.int .i64 0),(V.bool false),(V.bool false),(V.int .i64 0)])] [a2]) []).bind fun a3=>(un .not a3.1).bind fun a4=>V.ite a4
  (((ck [] [(V.int .i64 0),(V.int .i64 0),(V.bool false),(V.bool false),(V.int .i64 0)]).map (.agg 80)).bind fun a5=>(DR (BJ 80) 81 [t0,(V.agg 80 [(V.int .i64 0),(V.int .i64 0),(V.bool false),(V.bool false),(V.int .i64 0)])] (V.ref 1 [] 81) a5).bind fun a6=>(Ae a6 81 (V.ref 1 [] 81)).bind fun a7=>AY 0 a6 a7)
  (((ck [(Ph .i64) t1,tyB (V.bool true)] [t1,(V.int .i64 0),(V.bool true),(V.bool false),(V.int .i64 0)]).map (.agg 80)).bind fun a8=>(DR (BJ 80) 81 [t0,(V.agg 80 [(V.int .i64 0),(V.int .i64 0),(V.bool false),(V.bool false),(V.int .i64 0)]),(V.agg 80 [(V.int .i64 0),(V.int .i64 0),(V.bool false),(V.bool false),(V.int .i64 0)])] (V.ref 2 [] 81) a8).bind fun a9=>(fA 26 9 0 (V.ref 0 [] 26)).bind fun a10=>(Ae a9 9 a10).bind fun a11=>(AO .eql a11 (V.str [109,97,120])).bind fun a12=>V.ite a12
  ((AO .mul (V.int .i64 37) t1).bind fun a13=>(AO .add a13 (V.int .i64 11)).bind fun a14=>(AO .rem a14 (V.int .i64 64)).bind fun a15=>(fA 81 2 1 (V.ref 2 [] 81)).bind fun a16=>(DR (Ph .i64) 2 a9 a16 a15).bind fun a17=>(Ae a17 81 (V.ref 2 [] 81)).bind fun a18=>(DR (BJ 80) 81 a17 (V.ref 1 [] 81) a18).bind fun a19=>(Ae a19 81 (V.ref 1 [] 81)).bind fun a20=>AY 0 a19 a20)
  ((AO .eql a11 (V.str [108,97,98,101,108])).bind fun a21=>V.ite a21
  ((fA 81 2 1 (V.ref 2 [] 81)).bind fun a22=>(DR (Ph .i64) 2 a9 a22 t1).bind fun a23=>(Ae a23 81 (V.ref 2 [] 81)).bind fun a24=>(DR (BJ 80) 81 a23 (V.ref 1 [] 81) a24).bind fun a25=>(Ae a25 81 (V.ref 1 [] 81)).bind fun a26=>AY 0 a25 a26)
  ((AO .eql a11 (V.str [98,102,115])).bind fun a27=>V.ite a27
  ((fA 26 3 1 (V.ref 0 [] 26)).bind fun a28=>(Ae a9 3 a28).bind fun a29=>(AO .neq t1 a29).bind fun a30=>V.ite a30
  ((fA 81 2 1 (V.ref 2 [] 81)).bind fun a31=>(DR (Ph .i64) 2 a9 a31 (V.int .i64 (-1))).bind fun a32=>(Ae a32 81 (V.ref 2 [] 81)).bind fun a33=>(DR (BJ 80) 81 a32 (V.ref 1 [] 81) a33).bind fun a34=>(Ae a34 81 (V.ref 1 [] 81)).bind fun a35=>AY 0 a34 a35)
  ((Ae a9 81 (V.ref 2 [] 81)).bind fun a36=>(DR (BJ 80) 81 a9 (V.ref 1 [] 81) a36).bind fun a37=>(Ae a37 81 (V.ref 1 [] 81)).bind fun a38=>AY 0 a37 a38))
  ((AO .eql a11 (V.str [115,115,115,112])).bind fun a39=>V.ite a39
  ((fA 26 3 1 (V.ref 0 [] 26)).bind fun a40=>(Ae a9 3 a40).bind fun a41=>(AO .neq t1 a41).bind fun a42=>V.ite a42
  ((fA 81 2 1 (V.ref 2 [] 81)).bind fun a43=>(DR (Ph .i64) 2 a9 a43 (V.int .i64 (-1))).bind fun a44=>(Ae a44 81 (V.ref 2 [] 81)).bind fun a45=>(DR (BJ 80) 81 a44 (V.ref 1 [] 81) a45).bind fun a46=>(Ae a46 81 (V.ref 1 [] 81)).bind fun a47=>AY 0 a46 a47)
  ((Ae a9 81 (V.ref 2 [] 81)).bind fun a48=>(DR (BJ 80) 81 a9 (V.ref 1 [] 81) a48).bind fun a49=>(Ae a49 81 (V.ref 1 [] 81)).bind fun a50=>AY 0 a49 a50))
  ((AO .eql a11 (V.str [114,97,110,107])).bind fun a51=>V.ite a51
  ((fA 81 2 1 (V.ref 2 [] 81)).bind fun a52=>(DR (Ph .i64) 2 a9 a52 (V.int .i64 65536)).bind fun a53=>(Ae a53 81 (V.ref 2 [] 81)).bind fun a54=>(DR (BJ 80) 81 a53 (V.ref 1 [] 81) a54).bind fun a55=>(Ae a55 81 (V.ref 1 [] 81)).bind fun a56=>AY 0 a55 a56)
  ((AO .eql a11 (V.str [119,97,108,107,115])).bind fun a57=>V.ite a57
  ((fA 81 2 1 (V.ref 2 [] 81)).bind fun a58=>(DR (Ph .i64) 2 a9 a58 (V.int .i64 1)).bind fun a59=>(Ae a59 81 (V.ref 2 [] 81)).bind fun a60=>(DR (BJ 80) 81 a59 (V.ref 1 [] 81) a60).bind fun a61=>(Ae a61 81 (V.ref 1 [] 81)).bind fun a62=>AY 0 a61 a62)
  ((Ae a9 81 (V.ref 2 [] 81)).bind fun a63=>(DR (BJ 80) 81 a9 (V.ref 1 [] 81) a63).bind fun a64=>(Ae a64 81 (V.ref 1 [] 81)).bind fun a65=>AY 0 a64 a65)))))))else none:=
 BD (by kernel_rfl)
theorem AHK (t0:V):Cl 35 [t0] []=
 (Cl 36 (AL [(V.agg 54 (List.replicate 32 (V.int .u8 0)))] [t0]) []).bind fun a1=>(Cl 66 (AL [(V.agg 54 (List.replicate 32 (V.int .u8 0)))] [a1.1]) []).bind fun a2=>(DR (BJ 54) 55 [(V.agg 54 (List.replicate 32 (V.int .u8 0)))] (V.ref 0 [] 55) a2.1).bind fun a3=>(Ae a3 55 (V.ref 0 [] 55)).bind fun a4=>AY 0 a3 a4:=
 BD (by kernel_rfl)
def SC (t3 t9 t10 t11:V) (h:List V):Rv:=lp W 36 0 (cd 36 75) (bk 0 (sk 36 0 15 (lv 36 0))) ⟨[(3,t3),(9,t9),(10,t10),(11,t11)],h⟩
theorem QO (t3 t9 t10 t11:V) (h:List V):SC t3 t9 t10 t11 h=
 (AO .lss t11 t10).bind fun a5=>V.ite a5
  ((Di 81 t9 t11).bind fun a6=>(Ae h 81 a6).bind fun a7=>(DR (BJ 80) 81 (h++[(V.agg 80 [(V.int .i64 0),(V.int .i64 0),(V.bool false),(V.bool false),(V.int .i64 0)])]) (V.ref (List.length h) [] 81) a7).bind fun a8=>(Ae a8 81 (V.ref (List.length h) [] 81)).bind fun a9=>(Cl 67 (AL a8 [a9]) []).bind fun a10=>(Di 9 (V.weak t3) t11).bind fun a11=>(DR tyS 9 a8 a11 a10.1).bind fun a12=>(AO .add t11 (V.int .i64 1)).bind fun a13=>if Ad (List.length h) [t3,t9,t10,a13]=true then SC t3 t9 t10 a13 (List.take (List.length h) a12)else none)
  (AY 0 h t3):=
 Ce (by kernel_rfl)
theorem AHL (t0:V):Cl 36 [t0] []=
 (D8 (V.weak t0)).bind fun a1=>(mkL 9 (V.str []) a1 a1).bind fun a2=>(Dh [] a2).bind fun a3=>(D8 t0).bind fun a4=>SC a3.1 t0 a4 (V.int .i64 0) a3.2:=
 BD (by kernel_rfl)
theorem AHM (t0:V):Cl 43 [t0] []=
 if((BJ 59) (V.weak t0)&&V.under 0 (V.weak t0))=true then(fA 60 34 0 (V.ref 0 [] 60)).bind fun a1=>(Ae [(V.weak t0)] 34 a1).bind fun a2=>(AO .neq a2 (V.int .i64 0)).bind fun a3=>AY 0 [(V.weak t0)] a3 else none:=
 BD (by kernel_rfl)
theorem AHN (t0 t1:V) (h:List V):Cl 44 [t0,t1] h=
 (Cl 73 (AP [t0,t1]) h).bind fun a1=>(AO .geq a1.1 (V.int .i64 0)).bind fun a2=>AY (List.length h) a1.2 a2:=
 BD (by kernel_rfl)
def ABF (k:Rv):Rv:=
 k
def ABG (h:List V) (k:V→List V→Rv):Rv:=
 (bld P 125 []).bind fun t1=>if(BQ P 125 (V.weak t1)&&V.under (List.length h) (V.weak t1))=true then k (V.ref (List.length h) [] 125) (h++[(V.weak t1)])else none
theorem AHO (h:List V):Cl 45 [] h=
 ABF (ABG h fun a1 a2=>
  UB a2 a1):=
 BD (by kernel_rfl)
def SE (t0 t1:V) (n:Nat) (h:List V):Rv:=lp W 46 0 (cd 46 8) (bk 0 (sk 46 0 3 (lv 46 n))) ⟨[(0,t0),(1,t1)],h⟩
def ABH (t1:V) (k:V→Rv):Rv:=
 (AO .geq t1 (V.int .u64 128)).bind fun t5=>k t5
def ABJ (t0 t1:V) (h:List V) (k:List V→Rv):Rv:=
 (Dj t0).bind fun t10=>(BA P 125 0 t10).bind fun t11=>(BR h 68 t11).bind fun r=>(conv P r.2 93 5 t1).bind fun t14=>(AO .or t14 (V.int .u8 128)).bind fun t15=>(EO P 68 1 [(0,t15)]).bind fun t16=>(D5 P 68 r.2 r.1 t16).bind fun t17=>(Dj t0).bind fun t18=>(BA P 125 0 t18).bind fun t19=>(Ht P r.2 68 t19 t17).bind fun a1=>k a1
def ABK (t1:V) (k:V→Rv):Rv:=
 (AO .shr t1 (V.int .u64 7)).bind fun t7=>k t7
def ABL (t0 t1:V) (h:List V) (k:List V→Rv):Rv:=
 (Dj t0).bind fun t22=>(BA P 125 0 t22).bind fun t23=>(BR h 68 t23).bind fun r=>(conv P r.2 93 5 t1).bind fun t26=>(EO P 68 1 [(0,t26)]).bind fun t27=>(D5 P 68 r.2 r.1 t27).bind fun t28=>(Dj t0).bind fun t29=>(BA P 125 0 t29).bind fun t30=>(Ht P r.2 68 t30 t28).bind fun a1=>k a1
theorem Zi (t0 t1:V) (n:Nat) (h:List V):SE t0 t1 n h=
 ABH t1 fun a1=>
  V.ite a1
  (ABJ t0 t1 h fun a2=>
  ABK t1 fun a3=>
  SE t0 a3 n a2)
  (ABL t0 t1 h fun a4=>
  if(List.all [] V.okE)=true then AY n a4 (V.tup [])else none):=
 Ce (by kernel_rfl)
theorem AHP (t0 t1:V) (h:List V):Cl 46 [t0,t1] h=
 SE t0 t1 (List.length h) h:=
 BD (by kernel_rfl)
theorem AHQ (t0 t1:V) (h:List V):Cl 47 [t0,t1] h=
 if((BJ 54) t1&&V.under (List.length h) t1)=true then(Dj t0).bind fun a1=>(fA 125 68 0 a1).bind fun a2=>(BR (h++[t1]) 68 a2).bind fun a3=>(slA 55 54 32 5 (V.ref (List.length h) [] 55) none none none).bind fun a4=>(GK 5 (Ph .u8) false a3.2 a3.1 a4).bind fun a5=>(Dj t0).bind fun a6=>(fA 125 68 0 a6).bind fun a7=>(DR (Pq 5) 68 a3.2 a7 a5).bind fun a8=>if(List.all [] V.okE)=true then AY (List.length h) a8 (V.tup [])else none else none:=
 BD (by kernel_rfl)
def ABM (t0 t1:V) (h:List V) (k:List V→Rv):Rv:=
 (lenV P 9 t1).bind fun t6=>(conv P h 3 93 t6).bind fun t7=>(Cl 46 (AP [t0,t7]) h).bind fun r=>k r.2
def ABN (t0 t1:V) (h:List V) (k:List V→Rv):Rv:=
 (Dj t0).bind fun t11=>(BA P 125 0 t11).bind fun t12=>(BR h 68 t12).bind fun r=>(D5 P 68 r.2 r.1 t1).bind fun t15=>(Dj t0).bind fun t16=>(BA P 125 0 t16).bind fun t17=>(Ht P r.2 68 t17 t15).bind fun a1=>k a1
theorem AHR (t0 t1:V) (h:List V):Cl 48 [t0,t1] h=
 ABM t0 t1 h fun a1=>
  ABN t0 t1 a1 fun a2=>
  if(List.all [] V.okE)=true then AY (List.length h) a2 (V.tup [])else none:=
 BD (by kernel_rfl)
def ABO (k:Rv):Rv:=
 k
def ABP (t0:V) (h:List V) (k:V→Rv):Rv:=
 (Cl 74 (AL h [(V.weak t0)]) []).bind fun r=>k r.1
def ABQ (t4:V) (k:V→Rv):Rv:=
 (AO .neq t4 (V.int .i64 0)).bind fun t11=>k t11
def ABR (t4:V) (k:V→V→Rv):Rv:=
 k (V.str []) t4
def ABS (h:List V) (k:V→List V→Rv):Rv:=
 (Cl 45 (AP []) h).bind fun r=>k r.1 r.2
def ABT (t0 t5:V) (h:List V) (k:List V→Rv):Rv:=
 (lenV P 31 (V.weak t0)).bind fun t16=>(conv P h 3 93 t16).bind fun t17=>(Cl 46 (AP [t5,t17]) h).bind fun r=>k r.2
def ABU (t0:V) (h:List V) (k:V→V→V→Rv):Rv:=
 (Cl 75 (AL h [t0]) []).bind fun r=>(lenV P 58 r.1).bind fun t21=>k r.1 t21 (V.int .i64 0)
def SG (t5 t20 t21 t22:V) (h:List V):Rv:=lp W 49 0 (cd 49 303) (bk 0 (sk 49 0 63 (lv 49 0))) ⟨[(5,t5),(20,t20),(21,t21),(22,t22)],h⟩
def WW (t21 t22:V) (k:V→Rv):Rv:=
 (AO .lss t22 t21).bind fun t23=>k t23
def ABV (t20 t22:V) (h:List V) (k:V→Rv):Rv:=
 (Ag P 58 t20 t22).bind fun t24=>(Ae h 9 t24).bind fun t25=>k t25
def ABW (t5 t7:V) (h:List V) (k:List V→Rv):Rv:=
 (Cl 48 (AP [t5,t7]) h).bind fun r=>k r.2
def Xu (t22:V) (k:V→Rv):Rv:=
 (AO .add t22 (V.int .i64 1)).bind fun t29=>k t29
def Xv (t5:V) (h:List V) (k:V→V→List V→Rv):Rv:=
 (Cl 50 (AP [t5]) h).bind fun r=>k r.1 (V.int .i64 0) r.2
theorem QR (t5 t20 t21 t22:V) (h:List V):SG t5 t20 t21 t22 h=
 WW t21 t22 fun a11=>
  V.ite a11
  (ABV t20 t22 h fun a12=>
  ABW t5 a12 h fun a13=>
  Xu t22 fun a14=>
  SG t5 t20 t21 a14 a13)
  (Xv t5 h fun a15 a16 a17=>
  if(List.all [a16,a15] V.okE)=true then AY 0 a17 (V.tup [a15,a16])else none):=
 Ce (by kernel_rfl)
theorem AHS (t0:V):Cl 49 [t0] []=
 ABO (ABP t0 [] fun a1=>
  ABQ a1 fun a2=>
  V.ite a2
  (ABR a1 fun a3 a4=>
  if(List.all [a4,a3] V.okE)=true then AY 0 [] (V.tup [a3,a4])else none)
  (ABS [] fun a5 a6=>
  ABT t0 a5 a6 fun a7=>
  ABU t0 a7 fun a8 a9 a10=>
  SG a5 a8 a9 a10 a7)):=
 BD (by kernel_rfl)
def ABX (k:Rv):Rv:=
 k
def ABY (t0:V) (h:List V) (k:V→Rv):Rv:=
 (Dj t0).bind fun t4=>(BA P 125 0 t4).bind fun t5=>(BI h 68 t5).bind fun t6=>(conv P h 68 9 t6).bind fun t7=>k t7
theorem AHT (t0:V) (h:List V):Cl 50 [t0] h=
 ABX (ABY t0 h fun a1=>
  AY (List.length h) h a1):=
 BD (by kernel_rfl)
def ABZ (k:Rv):Rv:=
 k
def ABa (t0:V) (k:V→Rv):Rv:=
 (AO .lss t0 (V.int .u64 128)).bind fun t4=>k t4
def ABb (t0:V) (k:V→Rv):Rv:=
 (conv P [] 93 5 t0).bind fun t6=>(EO P 68 1 [(0,t6)]).bind fun t7=>(conv P [] 68 9 t7).bind fun t8=>k t8
def ABc (t0:V) (k:V→Rv):Rv:=
 (AO .rem t0 (V.int .u64 128)).bind fun t10=>(AO .add t10 (V.int .u64 128)).bind fun t11=>(conv P [] 93 5 t11).bind fun t12=>(EO P 68 1 [(0,t12)]).bind fun t13=>(conv P [] 68 9 t13).bind fun t14=>(AO .quo t0 (V.int .u64 128)).bind fun t16=>(Cl 51 (AL [] [t16]) []).bind fun r=>(AO .add t14 r.1).bind fun t18=>k t18
theorem AHU (t0:V):Cl 51 [t0] []=
 ABZ (ABa t0 fun a1=>
  V.ite a1
  (ABb t0 fun a2=>
  AY 0 [] a2)
  (ABc t0 fun a3=>
  AY 0 [] a3)):=
 BD (by kernel_rfl)
theorem AHV (t0:V):Cl 52 [t0] []=
 (lnS t0).bind fun a1=>(F9 .u64 a1).bind fun a2=>(Cl 51 (AL [] [a2]) []).bind fun a3=>(AO .add a3.1 t0).bind fun a4=>AY 0 [] a4:=
 BD (by kernel_rfl)
def SH (t3 t4 t5:V):Rv:=lp W 53 0 (cd 53 75) (bk 0 (sk 53 0 15 (lv 53 0))) ⟨[(3,t3),(4,t4),(5,t5)],[]⟩
theorem QS (t3 t4 t5:V):SH t3 t4 t5=
 (D8 (V.weak t4)).bind fun a5=>(AO .lss t5 a5).bind fun a6=>V.ite a6
  ((Di 9 (V.weak t4) t5).bind fun a7=>(Ae [] 9 a7).bind fun a8=>(Cl 52 (AL [] [a8]) []).bind fun a9=>(AO .add t3 a9.1).bind fun a10=>(AO .add t5 (V.int .i64 1)).bind fun a11=>SH a10 t4 a11)
  (AY 0 [] t3):=
 Ce (by kernel_rfl)
theorem AHW (t0:V):Cl 53 [t0] []=
 (D8 (V.weak t0)).bind fun a1=>(F9 .u64 a1).bind fun a2=>(Cl 51 (AL [] [a2]) []).bind fun a3=>(Cl 76 (AL [] [t0]) []).bind fun a4=>SH a3.1 a4.1 (V.int .i64 0):=
 BD (by kernel_rfl)
def ABd (k:Rv):Rv:=
 k
def ABe (t0:V) (h:List V) (k:V→List V→Rv):Rv:=
 (bld P 130 [(0,t0)]).bind fun t4=>if(BQ P 130 t4&&V.under (List.length h) t4)=true then k (V.ref (List.length h) [] 130) (h++[t4])else none
theorem AHX (t0:V) (h:List V):Cl 54 [t0] h=
 ABd (ABe t0 h fun a1 a2=>
  UB a2 a1):=
 BD (by kernel_rfl)
theorem AHY (t0:V):Cl 58 [t0] []=
 jn (fun a1=>
 AY 0 [] a1) (fun(a2:V→Rv)=>(AO .gtr t0 (V.int .i64 1125899906842624)).bind fun a3=>V.ite a3 (a2 (V.bool true)) ((AO .lss t0 (V.int .i64 (-1125899906842624))).bind fun a4=>a2 a4)):=
 BD (by kernel_rfl)
def NI (t4 t5:V) (h:List V):Rv:=lp W 61 0 (cd 61 303) (bk 0 (sk 61 0 63 (lv 61 0))) ⟨[(4,t4),(5,t5)],h⟩
theorem J7 (t4 t5:V) (h:List V):NI t4 t5 h=
 (D8 (V.weak t4)).bind fun a8=>(AO .lss t5 a8).bind fun a9=>V.ite a9
  ((AO .sub t5 (V.int .i64 1)).bind fun a10=>(Di 112 (V.weak t4) a10).bind fun a11=>(Ae h 112 a11).bind fun a12=>(Di 112 (V.weak t4) t5).bind fun a13=>(Ae h 112 a13).bind fun a14=>(Cl 91 (AL h [a12,a14]) []).bind fun a15=>(AO .eql a15.1 (V.int .i64 0)).bind fun a16=>V.ite a16
  (AY 0 h (V.int .i64 51))
  ((AO .add t5 (V.int .i64 1)).bind fun a17=>NI t4 a17 h))
  (AY 0 h (V.int .i64 0)):=
 Ce (by kernel_rfl)
theorem NJ (t0:V):Cl 61 [t0] []=
 if((BJ 23) (V.weak t0)&&V.under 0 (V.weak t0))=true then(if(List.all [(V.ref 0 [] 24)] V.capOk)=true then some (V.clo 87 [(V.ref 0 [] 24)])else none).bind fun a1=>jn (fun a2 a3=>
 V.ite a2
  (AY 0 a3 (V.int .i64 50))
  ((fA 24 22 1 (V.ref 0 [] 24)).bind fun a4=>(BI a3 22 a4).bind fun a5=>(Cl 90 (AP [a5]) a3).bind fun a6=>(Cl 89 (AP [a6.1,(V.clo 91 [])]) a6.2).bind fun a7=>NI a7.1 (V.int .i64 1) a7.2)) (fun(a18:V→List V→Rv)=>(fA 24 3 0 (V.ref 0 [] 24)).bind fun a19=>(Ae [(V.weak t0)] 3 a19).bind fun a20=>(AO .lss a20 (V.int .i64 1)).bind fun a21=>V.ite a21 (a18 (V.bool true) [(V.weak t0)]) ((fA 24 3 0 (V.ref 0 [] 24)).bind fun a22=>(Ae [(V.weak t0)] 3 a22).bind fun a23=>(AO .gtr a23 (V.int .i64 64)).bind fun a24=>V.ite a24 (a18 (V.bool true) [(V.weak t0)]) ((fA 24 22 1 (V.ref 0 [] 24)).bind fun a25=>(BI [(V.weak t0)] 22 a25).bind fun a26=>(D8 a26).bind fun a27=>(AO .gtr a27 (V.int .i64 512)).bind fun a28=>V.ite a28 (a18 (V.bool true) [(V.weak t0)]) ((fA 24 22 1 (V.ref 0 [] 24)).bind fun a29=>(BI [(V.weak t0)] 22 a29).bind fun a30=>(Cl 88 (AP [a30,a1]) [(V.weak t0)]).bind fun a31=>a18 a31.1 a31.2))))else none:=
 BD (by kernel_rfl)
theorem AHZ (t0:V):Cl 62 [t0] []=
 (KX 9 false (ck [tyS (V.str [109,97,120]),tyS (V.str [108,97,98,101,108]),tyS (V.str [115,115,115,112]),tyS (V.str [98,102,115]),tyS (V.str [100,101,103,114,101,101]),tyS (V.str [114,97,110,107]),tyS (V.str [119,97,108,107,115])] [(V.str [109,97,120]),(V.str [108,97,98,101,108]),(V.str [115,115,115,112]),(V.str [98,102,115]),(V.str [100,101,103,114,101,101]),(V.str [114,97,110,107]),(V.str [119,97,108,107,115])])).bind fun a1=>(Cl 92 (AL [] [a1,t0]) []).bind fun a2=>AY 0 [] a2.1:=
 BD (by kernel_rfl)
theorem AHa (t0 t1:V):Cl 63 [t0,t1] []=
 jn (fun a1=>
 AY 0 [] a1) (fun(a2:V→Rv)=>(AO .geq t0 (V.int .i64 1)).bind fun a3=>V.ite a3 ((AO .leq t0 (V.int .i64 64)).bind fun a4=>V.ite a4 ((AO .geq t1 (V.int .i64 1)).bind fun a5=>V.ite a5 ((AO .leq t1 (V.int .i64 64)).bind fun a6=>a2 a6) (a2 (V.bool false))) (a2 (V.bool false))) (a2 (V.bool false))):=
 BD (by kernel_rfl)
theorem AHb (t0 t1 t2:V) (h:List V):Cl 64 [t0,t1,t2] h=
 (Ae h 3 t1).bind fun a1=>(Cl 65 (AL h [t0,a1]) []).bind fun a2=>(Ae h 3 t2).bind fun a3=>(AO .eql a2.1 a3).bind fun a4=>AY (List.length h) h a4:=
 BD (by kernel_rfl)
theorem AHc (t0 t1:V):Cl 65 [t0,t1] []=
 jn (fun a1=>
 V.ite a1
  (AY 0 [] (V.int .i64 (-1)))
  ((F9 .u32 t0).bind fun a2=>(Cl 93 (AL [] [a2]) []).bind fun a3=>(F9 .u32 t1).bind fun a4=>(AO .rem a3.1 a4).bind fun a5=>(F9 .i64 a5).bind fun a6=>AY 0 [] a6)) (fun(a7:V→Rv)=>(AO .lss t0 (V.int .i64 0)).bind fun a8=>V.ite a8 (a7 (V.bool true)) ((AO .lss t1 (V.int .i64 1)).bind fun a9=>V.ite a9 (a7 (V.bool true)) ((AO .gtr t1 (V.int .i64 64)).bind fun a10=>a7 a10))):=
 BD (by kernel_rfl)
theorem AHd (t0:V):Cl 66 [t0] []=
 (D8 (V.weak t0)).bind fun a1=>(Cl 95 (AL [(V.agg 54 (List.replicate 32 (V.int .u8 0)))] [t0]) []).bind fun a2=>(Cl 94 (AL [(V.agg 54 (List.replicate 32 (V.int .u8 0)))] [a1,a2.1]) []).bind fun a3=>(DR (BJ 54) 55 [(V.agg 54 (List.replicate 32 (V.int .u8 0)))] (V.ref 0 [] 55) a3.1).bind fun a4=>(Ae a4 55 (V.ref 0 [] 55)).bind fun a5=>AY 0 a4 a5:=
 BD (by kernel_rfl)
theorem ABf (t0:V):Cl 67 [t0] []=
 if((BJ 80) t0&&V.under 0 t0)=true then(Ae [t0] 81 (V.ref 0 [] 81)).bind fun a1=>(Cl 96 (AL [t0] [a1]) []).bind fun a2=>(AO .neq a2.1 (V.int .i64 0)).bind fun a3=>V.ite a3
  (AY 0 [t0] (V.str []))
  ((Cl 45 (AP []) [t0]).bind fun a4=>(fA 81 3 0 (V.ref 0 [] 81)).bind fun a5=>(Ae a4.2 3 a5).bind fun a6=>(F9 .u64 a6).bind fun a7=>(Cl 46 (AP [a4.1,a7]) a4.2).bind fun a8=>(fA 81 2 1 (V.ref 0 [] 81)).bind fun a9=>(Ae a8.2 2 a9).bind fun a10=>(Cl 97 (AP [a4.1,a10]) a8.2).bind fun a11=>(fA 81 4 2 (V.ref 0 [] 81)).bind fun a12=>(Ae a11.2 4 a12).bind fun a13=>(Cl 98 (AL a11.2 [a13]) []).bind fun a14=>(Cl 46 (AP [a4.1,a14.1]) a11.2).bind fun a15=>(fA 81 4 3 (V.ref 0 [] 81)).bind fun a16=>(Ae a15.2 4 a16).bind fun a17=>(Cl 98 (AL a15.2 [a17]) []).bind fun a18=>(Cl 46 (AP [a4.1,a18.1]) a15.2).bind fun a19=>(fA 81 2 4 (V.ref 0 [] 81)).bind fun a20=>(Ae a19.2 2 a20).bind fun a21=>(Cl 97 (AP [a4.1,a21]) a19.2).bind fun a22=>(Cl 50 (AP [a4.1]) a22.2).bind fun a23=>AY 0 a23.2 a23.1)else none:=
 BD (by kernel_rfl)
def SI (t0 t1 t7 t8:V) (n:Nat) (h:List V):Rv:=lp W 73 0 (cd 73 37) (bk 0 (sk 73 0 7 (lv 73 n))) ⟨[(0,t0),(1,t1),(7,t7),(8,t8)],h⟩
theorem J8 (t0 t1 t7 t8:V) (n:Nat) (h:List V):SI t0 t1 t7 t8 n h=
 (AO .lss t8 t7).bind fun a2=>V.ite a2
  ((Di 60 (V.weak t0) t8).bind fun a3=>(BI h 60 a3).bind fun a4=>CP P D9 W t1 [a4] h fun a5 a6=>if V.noOwn a5=true then V.ite a5
  (AY n a6 t8)
  ((AO .add t8 (V.int .i64 1)).bind fun a7=>SI t0 t1 t7 a7 n a6)else none)
  (AY n h (V.int .i64 (-1))):=
 Ce (by kernel_rfl)
theorem AHe (t0 t1:V) (h:List V):Cl 73 [t0,t1] h=
 (D8 (V.weak t0)).bind fun a1=>SI t0 t1 a1 (V.int .i64 0) (List.length h) h:=
 BD (by kernel_rfl)
def ABg (k:Rv):Rv:=
 k
def ABh (k:V→Rv):Rv:=
 k (V.clo 105 [])
def ABi (t0:V) (k:V→Rv):Rv:=
 (lenV P 31 (V.weak t0)).bind fun t9=>(AO .gtr t9 (V.int .i64 512)).bind fun t10=>k t10
def ABj (k:V→Rv):Rv:=
 k (V.int .i64 110)
def ABk (t0:V) (h:List V) (k:V→Rv):Rv:=
 (Cl 106 (AL h [t0]) []).bind fun r=>k r.1
def ABl (t4:V) (k:V→V→V→Rv):Rv:=
 (lenV P 31 (V.weak t4)).bind fun t14=>k (V.weak t4) t14 (V.int .i64 0)
def SK (t3 t4 t13 t14 t15:V) (h:List V):Rv:=lp W 74 0 (cd 74 303) (bk 0 (sk 74 0 63 (lv 74 0))) ⟨[(3,t3),(4,t4),(13,t13),(14,t14),(15,t15)],h⟩
def WX (t14 t15:V) (k:V→Rv):Rv:=
 (AO .lss t15 t14).bind fun t16=>k t16
def ABm (t13 t15:V) (h:List V) (k:V→V→List V→Rv):Rv:=
 (Ag P 31 t13 t15).bind fun t18=>(Ae h 108 t18).bind fun t19=>(Ht P (h++[zero P 108]) 108 (V.ref (List.length h) [] 108) t19).bind fun a1=>k t15 (V.ref (List.length h) [] 108) a1
def WY (t4 t5 t6:V) (h:List V) (k:V→Rv):Rv:=
 (AO .gtr t5 (V.int .i64 0)).bind fun t21=>V.ite t21 ((AO .sub t5 (V.int .i64 1)).bind fun t25=>(Ag P 31 (V.weak t4) t25).bind fun t26=>(BA P 108 0 t26).bind fun t27=>(Ae h 3 t27).bind fun t28=>(BA P 108 0 t6).bind fun t29=>(Ae h 3 t29).bind fun t30=>(AO .eql t28 t30).bind fun t31=>V.ite t31 ((AO .sub t5 (V.int .i64 1)).bind fun t36=>(Ag P 31 (V.weak t4) t36).bind fun t37=>(BA P 108 1 t37).bind fun t38=>(Ae h 3 t38).bind fun t39=>(BA P 108 1 t6).bind fun t40=>(Ae h 3 t40).bind fun t41=>(AO .eql t39 t41).bind fun t42=>k t42) (k (V.bool false))) (k (V.bool false))
def WZ (t3 t6 t7:V) (h:List V) (k:V→List V→Rv):Rv:=
 (BA P 108 0 t6).bind fun t45=>(Ae h 3 t45).bind fun t46=>CP P D9 W t3 [t46] h fun t47 a1=>if V.noOwn t47=true then(un .not t47).bind fun t48=>V.ite t48 (k (V.bool true) a1) ((BA P 108 1 t6).bind fun t51=>(Ae a1 3 t51).bind fun t52=>CP P D9 W t3 [t52] a1 fun t53 a2=>if V.noOwn t53=true then(un .not t53).bind fun t54=>V.ite t54 (k (V.bool true) a2) ((BA P 108 2 t6).bind fun t57=>(Ae a2 2 t57).bind fun t58=>(AO .gtr t58 (V.int .i64 1125899906842624)).bind fun t59=>V.ite t59 (k (V.bool true) a2) ((BA P 108 2 t6).bind fun t62=>(Ae a2 2 t62).bind fun t63=>(AO .lss t63 (V.int .i64 (-1125899906842624))).bind fun t64=>V.ite t64 (k (V.bool true) a2) (k t7 a2)))else none)else none
def Xw (k:V→Rv):Rv:=
 k (V.int .i64 110)
def Xx (t15:V) (k:V→Rv):Rv:=
 (AO .add t15 (V.int .i64 1)).bind fun t69=>k t69
def Xy (k:V→Rv):Rv:=
 k (V.int .i64 0)
theorem QT (t3 t4 t13 t14 t15:V) (h:List V):SK t3 t4 t13 t14 t15 h=
 WX t14 t15 fun a8=>
  V.ite a8
  (ABm t13 t15 h fun a9 a10 a11=>
  WY t4 a9 a10 a11 fun a12=>
  WZ t3 a10 a12 a11 fun a13 a14=>
  V.ite a13
  (Xw fun a15=>
  AY 0 a14 a15)
  (Xx t15 fun a16=>
  if Ad (List.length h) [t3,t4,t13,t14,a16]=true then SK t3 t4 t13 t14 a16 (List.take (List.length h) a14)else none))
  (Xy fun a17=>
  AY 0 h a17):=
 Ce (by kernel_rfl)
theorem AHf (t0:V):Cl 74 [t0] []=
 ABg (ABh fun a1=>
  ABi t0 fun a2=>
  V.ite a2
  (ABj fun a3=>
  AY 0 [] a3)
  (ABk t0 [] fun a4=>
  ABl a4 fun a5 a6 a7=>
  SK a1 a4 a5 a6 a7 [])):=
 BD (by kernel_rfl)
def ABn (k:Rv):Rv:=
 k
def ABo (k:V→Rv):Rv:=
 k (V.weak (V.lst 9 .nil []))
def ABp (t0:V) (h:List V) (k:V→V→V→Rv):Rv:=
 (Cl 106 (AL h [t0]) []).bind fun r=>(lenV P 31 r.1).bind fun t8=>k r.1 t8 (V.int .i64 0)
def SL (t3 t7 t8 t9:V) (h:List V):Rv:=lp W 75 0 (cd 75 75) (bk 0 (sk 75 0 15 (lv 75 0))) ⟨[(3,t3),(7,t7),(8,t8),(9,t9)],h⟩
def Wh (t8 t9:V) (k:V→Rv):Rv:=
 (AO .lss t9 t8).bind fun t10=>k t10
def ABq (t7 t9:V) (h:List V) (k:V→List V→Rv):Rv:=
 (Ag P 31 t7 t9).bind fun t11=>(Ae h 108 t11).bind fun t12=>(Ht P (h++[zero P 108]) 108 (V.ref (List.length h) [] 108) t12).bind fun a1=>k (V.ref (List.length h) [] 108) a1
def ABr (t3 t5:V) (h:List V) (k:V→Rv):Rv:=
 (Ae h 108 t5).bind fun t14=>(Cl 107 (AL h [t14]) []).bind fun r=>(EO P 58 1 [(0,r.1)]).bind fun t16=>(D5 P 58 h t3 t16).bind fun t17=>k t17
def ABs (t9:V) (k:V→Rv):Rv:=
 (AO .add t9 (V.int .i64 1)).bind fun t18=>k t18
def ABt (t3:V) (k:V→Rv):Rv:=
 k t3
theorem QU (t3 t7 t8 t9:V) (h:List V):SL t3 t7 t8 t9 h=
 Wh t8 t9 fun a5=>
  V.ite a5
  (ABq t7 t9 h fun a6 a7=>
  ABr t3 a6 a7 fun a8=>
  ABs t9 fun a9=>
  if Ad (List.length h) [a8,t7,t8,a9]=true then SL a8 t7 t8 a9 (List.take (List.length h) a7)else none)
  (ABt t3 fun a10=>
  AY 0 h a10):=
 Ce (by kernel_rfl)
theorem AHg (t0:V):Cl 75 [t0] []=
 ABn (ABo fun a1=>
  ABp t0 [] fun a2 a3 a4=>
  SL a1 a2 a3 a4 []):=
 BD (by kernel_rfl)
def NK (t3 t4 t5:V):Rv:=lp W 76 0 (cd 76 75) (bk 0 (sk 76 0 15 (lv 76 0))) ⟨[(3,t3),(4,t4),(5,t5)],[]⟩
theorem QV (t3 t4 t5:V):NK t3 t4 t5=
 (D8 (V.weak t3)).bind fun a3=>(AO .lss t5 a3).bind fun a4=>V.ite a4
  (jn (fun a5=>
 V.ite a5
  ((KX 9 false (ck [tyS (V.str [])] [(V.str [])])).bind fun a6=>(GK 9 tyS false [] t4 a6).bind fun a7=>(AO .add t5 (V.int .i64 1)).bind fun a8=>NK t3 a7 a8)
  ((Di 108 (V.weak t3) t5).bind fun a9=>(fA 108 3 0 a9).bind fun a10=>(Ae [] 3 a10).bind fun a11=>(F9 .u64 a11).bind fun a12=>(Cl 51 (AL [] [a12]) []).bind fun a13=>(Di 108 (V.weak t3) t5).bind fun a14=>(fA 108 3 1 a14).bind fun a15=>(Ae [] 3 a15).bind fun a16=>(F9 .u64 a16).bind fun a17=>(Cl 51 (AL [] [a17]) []).bind fun a18=>(AO .add a13.1 a18.1).bind fun a19=>(Di 108 (V.weak t3) t5).bind fun a20=>(fA 108 2 2 a20).bind fun a21=>(Ae [] 2 a21).bind fun a22=>(Cl 103 (AL [] [a22]) []).bind fun a23=>(AO .add a19 a23.1).bind fun a24=>(KX 9 false (ck [tyS a24] [a24])).bind fun a25=>(GK 9 tyS false [] t4 a25).bind fun a26=>(AO .add t5 (V.int .i64 1)).bind fun a27=>NK t3 a26 a27)) (fun(a28:V→Rv)=>(Di 108 (V.weak t3) t5).bind fun a29=>(fA 108 3 0 a29).bind fun a30=>(Ae [] 3 a30).bind fun a31=>(AO .lss a31 (V.int .i64 0)).bind fun a32=>V.ite a32 (a28 (V.bool true)) ((Di 108 (V.weak t3) t5).bind fun a33=>(fA 108 3 1 a33).bind fun a34=>(Ae [] 3 a34).bind fun a35=>(AO .lss a35 (V.int .i64 0)).bind fun a36=>a28 a36)))
  (AY 0 [] t4):=
 Ce (by kernel_rfl)
theorem AHh (t0:V):Cl 76 [t0] []=
 (Cl 108 (AL [] [t0]) []).bind fun a1=>(KX 9 false (ck [] [])).bind fun a2=>NK a1.1 a2 (V.int .i64 0):=
 BD (by kernel_rfl)
theorem AHi (t0 t1:V) (h:List V):Cl 87 [t0,t1] h=
 if((BJ 111) t0&&V.under (List.length h) t0)=true then jn (fun a1=>
 AY (List.length h) (h++[t0]) a1) (fun(a2:V→Rv)=>(fA 112 3 0 (V.ref (List.length h) [] 112)).bind fun a3=>(Ae (h++[t0]) 3 a3).bind fun a4=>(AO .lss a4 (V.int .i64 0)).bind fun a5=>V.ite a5 (a2 (V.bool true)) ((fA 112 3 0 (V.ref (List.length h) [] 112)).bind fun a6=>(Ae (h++[t0]) 3 a6).bind fun a7=>(fA 24 3 0 t1).bind fun a8=>(Ae (h++[t0]) 3 a8).bind fun a9=>(AO .geq a7 a9).bind fun a10=>V.ite a10 (a2 (V.bool true)) ((fA 112 3 1 (V.ref (List.length h) [] 112)).bind fun a11=>(Ae (h++[t0]) 3 a11).bind fun a12=>(AO .lss a12 (V.int .i64 0)).bind fun a13=>V.ite a13 (a2 (V.bool true)) ((fA 112 3 1 (V.ref (List.length h) [] 112)).bind fun a14=>(Ae (h++[t0]) 3 a14).bind fun a15=>(fA 24 3 0 t1).bind fun a16=>(Ae (h++[t0]) 3 a16).bind fun a17=>(AO .geq a15 a17).bind fun a18=>V.ite a18 (a2 (V.bool true)) ((fA 112 2 2 (V.ref (List.length h) [] 112)).bind fun a19=>(Ae (h++[t0]) 2 a19).bind fun a20=>(AO .lss a20 (V.int .i64 0)).bind fun a21=>V.ite a21 (a2 (V.bool true)) ((fA 112 2 2 (V.ref (List.length h) [] 112)).bind fun a22=>(Ae (h++[t0]) 2 a22).bind fun a23=>(AO .gtr a23 (V.int .i64 1048576)).bind fun a24=>a2 a24))))))else none:=
 BD (by kernel_rfl)
theorem AHj (t0 t1:V) (h:List V):Cl 88 [t0,t1] h=
 (Cl 112 (AP [t0,t1]) h).bind fun a1=>(AO .geq a1.1 (V.int .i64 0)).bind fun a2=>AY (List.length h) a1.2 a2:=
 BD (by kernel_rfl)
theorem AHk (t0 t1:V) (h:List V):Cl 89 [t0,t1] h=
 (Cl 113 (AP [t0]) h).bind fun a1=>(Zb 1000091 112 [(V.weak a1.1),t1] a1.2).bind fun a2=>AY (List.length h) a2.2 a1.1:=
 BD (by kernel_rfl)
theorem AHl (t0:V) (h:List V):Cl 90 [t0] h=
 if((Pq 112) (V.weak t0)&&V.under (List.length h) (V.weak t0))=true then(if(List.all [(V.ref (List.length h) [] 22)] V.capOk)=true then some (V.clo 115 [(V.ref (List.length h) [] 22)])else none).bind fun a1=>UB (h++[(V.weak t0)]) a1 else none:=
 BD (by kernel_rfl)
theorem AHm (t0 t1:V):Cl 91 [t0,t1] []=
 if((BJ 111) t0&&V.under 0 t0)=true then if((BJ 111) t1&&V.under 1 t1)=true then(fA 112 3 0 (V.ref 0 [] 112)).bind fun a1=>(Ae [t0,t1] 3 a1).bind fun a2=>(fA 112 3 0 (V.ref 1 [] 112)).bind fun a3=>(Ae [t0,t1] 3 a3).bind fun a4=>(AO .neq a2 a4).bind fun a5=>V.ite a5
  ((fA 112 3 0 (V.ref 0 [] 112)).bind fun a6=>(Ae [t0,t1] 3 a6).bind fun a7=>(fA 112 3 0 (V.ref 1 [] 112)).bind fun a8=>(Ae [t0,t1] 3 a8).bind fun a9=>(AO .sub a7 a9).bind fun a10=>AY 0 [t0,t1] a10)
  ((fA 112 3 1 (V.ref 0 [] 112)).bind fun a11=>(Ae [t0,t1] 3 a11).bind fun a12=>(fA 112 3 1 (V.ref 1 [] 112)).bind fun a13=>(Ae [t0,t1] 3 a13).bind fun a14=>(AO .sub a12 a14).bind fun a15=>AY 0 [t0,t1] a15)else none else none:=
 BD (by kernel_rfl)
theorem AHn (t0 t1:V):Cl 92 [t0,t1] []=
 (Cl 116 (AL [] [t0,t1]) []).bind fun a1=>(AO .geq a1.1 (V.int .i64 0)).bind fun a2=>AY 0 [] a2:=
 BD (by kernel_rfl)
theorem AHo (t0:V):Cl 93 [t0] []=
 (AO .mul t0 (V.int .u32 2654435761)).bind fun a1=>(AO .shr a1 (V.int .u64 15)).bind fun a2=>(AO .xor a1 a2).bind fun a3=>(AO .mul a3 (V.int .u32 2246822519)).bind fun a4=>(AO .shr a4 (V.int .u64 13)).bind fun a5=>(AO .xor a4 a5).bind fun a6=>AY 0 [] a6:=
 BD (by kernel_rfl)
def ABu (t1:V) (h:List V) (k:V→V→List V→Rv):Rv:=
 if(BQ P 55 t1&&V.under (List.length h) t1)=true then k (V.ref (List.length h) [] 55) (V.ref (List.length (h++[t1])) [] 55) ((h++[t1])++[zero P 55])else none
def ABv (h:List V) (k:V→List V→Rv):Rv:=
 (Cl 45 (AP []) h).bind fun r=>k r.1 r.2
def ABw (t0 t5:V) (h:List V) (k:List V→Rv):Rv:=
 (conv P h 3 93 t0).bind fun t9=>(Cl 46 (AP [t5,t9]) h).bind fun r=>k r.2
def ABx (t3 t4 t5:V) (h:List V) (k:List V→Rv):Rv:=
 (EO P 68 1 [(0,(V.int .u8 3))]).bind fun t11=>(Cl 50 (AP [t5]) h).bind fun r=>(conv P r.2 9 68 r.1).bind fun t14=>(LV P 55 t3 none none none).bind fun t15=>(EO P 182 3 [(0,t11),(1,t14),(2,t15)]).bind fun t16=>(Cl 117 (AL r.2 [t16]) []).bind fun a1=>(Ht P r.2 55 t4 a1.1).bind fun a1=>k a1
theorem AHp (t0 t1:V):Cl 94 [t0,t1] []=
 ABu t1 [] fun a1 a2 a3=>
  ABv a3 fun a4 a5=>
  ABw t0 a4 a5 fun a6=>
  ABx a1 a2 a4 a6 fun a7=>
  (Ae a7 55 a2).bind fun a8=>AY 0 a7 a8:=
 BD (by kernel_rfl)
theorem ABy (t0:V):Cl 95 [t0] []=
 (D8 (V.weak t0)).bind fun a1=>(AO .eql a1 (V.int .i64 0)).bind fun a2=>V.ite a2
  ((KX 5 false (ck [(Ph .u8) (V.int .u8 2)] [(V.int .u8 2)])).bind fun a3=>(KX 68 true (ck [(Pq 5) a3] [(V.weak a3)])).bind fun a4=>(Cl 117 (AL [(V.agg 54 (List.replicate 32 (V.int .u8 0)))] [a4]) []).bind fun a5=>(DR (BJ 54) 55 [(V.agg 54 (List.replicate 32 (V.int .u8 0)))] (V.ref 0 [] 55) a5.1).bind fun a6=>(Ae a6 55 (V.ref 0 [] 55)).bind fun a7=>AY 0 a6 a7)
  ((AO .eql a1 (V.int .i64 1)).bind fun a8=>V.ite a8
  ((Di 9 t0 (V.int .i64 0)).bind fun a9=>(Ae [(V.agg 54 (List.replicate 32 (V.int .u8 0)))] 9 a9).bind fun a10=>(Cl 118 (AL [(V.agg 54 (List.replicate 32 (V.int .u8 0)))] [a10]) []).bind fun a11=>(DR (BJ 54) 55 [(V.agg 54 (List.replicate 32 (V.int .u8 0)))] (V.ref 0 [] 55) a11.1).bind fun a12=>(Ae a12 55 (V.ref 0 [] 55)).bind fun a13=>AY 0 a12 a13)
  ((D8 (V.weak t0)).bind fun a14=>(Cl 119 (AL [(V.agg 54 (List.replicate 32 (V.int .u8 0)))] [a14]) []).bind fun a15=>(slL 9 (V.weak t0) none (some a15.1) (some a15.1)).bind fun a16=>(Cl 95 (AL [(V.agg 54 (List.replicate 32 (V.int .u8 0)))] [a16]) []).bind fun a17=>(slL 9 (V.weak t0) (some a15.1) none none).bind fun a18=>(Cl 95 (AL [(V.agg 54 (List.replicate 32 (V.int .u8 0)))] [a18]) []).bind fun a19=>(Cl 120 (AL [(V.agg 54 (List.replicate 32 (V.int .u8 0)))] [a17.1,a19.1]) []).bind fun a20=>(DR (BJ 54) 55 [(V.agg 54 (List.replicate 32 (V.int .u8 0)))] (V.ref 0 [] 55) a20.1).bind fun a21=>(Ae a21 55 (V.ref 0 [] 55)).bind fun a22=>AY 0 a21 a22)):=
 BD (by kernel_rfl)
theorem Iu (t0:V):Cl 96 [t0] []=
 if((BJ 80) t0&&V.under 0 t0)=true then jn (fun a1=>
 V.ite a1
  (AY 0 [t0] (V.int .i64 100))
  (AY 0 [t0] (V.int .i64 0))) (fun(a2:V→Rv)=>(fA 81 3 0 (V.ref 0 [] 81)).bind fun a3=>(Ae [t0] 3 a3).bind fun a4=>(AO .lss a4 (V.int .i64 0)).bind fun a5=>V.ite a5 (a2 (V.bool true)) ((fA 81 3 0 (V.ref 0 [] 81)).bind fun a6=>(Ae [t0] 3 a6).bind fun a7=>(AO .geq a7 (V.int .i64 64)).bind fun a8=>V.ite a8 (a2 (V.bool true)) ((fA 81 2 1 (V.ref 0 [] 81)).bind fun a9=>(Ae [t0] 2 a9).bind fun a10=>(Cl 121 (AL [t0] [a10]) []).bind fun a11=>V.ite a11.1 (a2 (V.bool true)) ((fA 81 2 4 (V.ref 0 [] 81)).bind fun a12=>(Ae [t0] 2 a12).bind fun a13=>(Cl 121 (AL [t0] [a13]) []).bind fun a14=>V.ite a14.1 (a2 (V.bool true)) ((fA 81 4 3 (V.ref 0 [] 81)).bind fun a15=>(Ae [t0] 4 a15).bind fun a16=>(un .not a16).bind fun a17=>V.ite a17 ((fA 81 2 4 (V.ref 0 [] 81)).bind fun a18=>(Ae [t0] 2 a18).bind fun a19=>(AO .neq a19 (V.int .i64 0)).bind fun a20=>a2 a20) (a2 (V.bool false)))))))else none:=
 BD (by kernel_rfl)
def ABz (t0 t1:V) (h:List V) (k:List V→Rv):Rv:=
 (conv P h 2 93 t1).bind fun t6=>(AO .shl t6 (V.int .u64 1)).bind fun t7=>(AO .shr t1 (V.int .u64 63)).bind fun t9=>(conv P h 2 93 t9).bind fun t10=>(AO .xor t7 t10).bind fun t11=>(Cl 46 (AP [t0,t11]) h).bind fun r=>k r.2
theorem AHq (t0 t1:V) (h:List V):Cl 97 [t0,t1] h=
 ABz t0 t1 h fun a1=>
  if(List.all [] V.okE)=true then AY (List.length h) a1 (V.tup [])else none:=
 BD (by kernel_rfl)
theorem AHr (t0:V):Cl 98 [t0] []=
 V.ite t0
  (AY 0 [] (V.int .u64 1))
  (AY 0 [] (V.int .u64 0)):=
 BD (by kernel_rfl)
theorem Xz (t0:V):Cl 103 [t0] []=
 (AO .geq t0 (V.int .i64 0)).bind fun a1=>V.ite a1
  ((F9 .u64 t0).bind fun a2=>(AO .mul (V.int .u64 2) a2).bind fun a3=>(Cl 51 (AL [] [a3]) []).bind fun a4=>AY 0 [] a4.1)
  ((AO .sub (V.int .i64 (-1)) t0).bind fun a5=>(F9 .u64 a5).bind fun a6=>(AO .mul (V.int .u64 2) a6).bind fun a7=>(AO .add a7 (V.int .u64 1)).bind fun a8=>(Cl 51 (AL [] [a8]) []).bind fun a9=>AY 0 [] a9.1):=
 BD (by kernel_rfl)
def X0 (k:Rv):Rv:=
 k
def X3 (t0:V) (k:V→Rv):Rv:=
 (AO .geq t0 (V.int .i64 0)).bind fun t4=>V.ite t4 ((AO .lss t0 (V.int .i64 64)).bind fun t7=>k t7) (k (V.bool false))
theorem AD8 (t0:V):Cl 105 [t0] []=
 X0 (X3 t0 fun a1=>
  AY 0 [] a1):=
 BD (by kernel_rfl)
def X4 (k:Rv):Rv:=
 k
def X5 (t0:V) (h:List V) (k:V→List V→Rv):Rv:=
 (D5 P 31 h (V.lst 108 .nil []) t0).bind fun v=>(Dh h v).bind fun r=>k r.1 r.2
def X6 (t3:V) (h:List V) (k:List V→Rv):Rv:=
 (Zb 2000128 108 [(V.weak t3),(V.clo 128 [])] h).bind fun r=>k r.2
def X7 (t3:V) (k:V→Rv):Rv:=
 k t3
theorem AD9 (t0:V):Cl 106 [t0] []=
 X4 (X5 t0 [] fun a1 a2=>
  X6 a1 a2 fun a3=>
  X7 a1 fun a4=>
  AY 0 a3 a4):=
 BD (by kernel_rfl)
def X8 (t0:V) (h:List V) (k:V→List V→Rv):Rv:=
 if(BQ P 108 t0&&V.under (List.length h) t0)=true then k (V.ref (List.length h) [] 108) (h++[t0])else none
def X9 (t1:V) (h:List V) (k:V→Rv):Rv:=
 (BA P 108 0 t1).bind fun t4=>(Ae h 3 t4).bind fun t5=>(AO .lss t5 (V.int .i64 0)).bind fun t6=>V.ite t6 (k (V.bool true)) ((BA P 108 1 t1).bind fun t8=>(Ae h 3 t8).bind fun t9=>(AO .lss t9 (V.int .i64 0)).bind fun t10=>k t10)
def SN (k:V→Rv):Rv:=
 k (V.str [])
def YA (h:List V) (k:V→List V→Rv):Rv:=
 (Cl 45 (AP []) h).bind fun r=>k r.1 r.2
def YB (t1 t3:V) (h:List V) (k:List V→Rv):Rv:=
 (BA P 108 0 t1).bind fun t14=>(Ae h 3 t14).bind fun t15=>(conv P h 3 93 t15).bind fun t16=>(Cl 46 (AP [t3,t16]) h).bind fun r=>k r.2
def YC (t1 t3:V) (h:List V) (k:List V→Rv):Rv:=
 (BA P 108 1 t1).bind fun t19=>(Ae h 3 t19).bind fun t20=>(conv P h 3 93 t20).bind fun t21=>(Cl 46 (AP [t3,t21]) h).bind fun r=>k r.2
def YD (t1 t3:V) (h:List V) (k:List V→Rv):Rv:=
 (BA P 108 2 t1).bind fun t24=>(Ae h 2 t24).bind fun t25=>(Cl 97 (AP [t3,t25]) h).bind fun r=>k r.2
def YE (t3:V) (h:List V) (k:V→List V→Rv):Rv:=
 (Cl 50 (AP [t3]) h).bind fun r=>k r.1 r.2
theorem AEA (t0:V):Cl 107 [t0] []=
 X8 t0 [] fun a1 a2=>
  X9 a1 a2 fun a3=>
  V.ite a3
  (SN fun a4=>
  AY 0 a2 a4)
  (YA a2 fun a5 a6=>
  YB a1 a5 a6 fun a7=>
  YC a1 a5 a7 fun a8=>
  YD a1 a5 a8 fun a9=>
  YE a5 a9 fun a10 a11=>
  AY 0 a11 a10):=
 BD (by kernel_rfl)
def JQ (t0 t3 t4:V):Rv:=lp W 108 0 (cd 108 75) (bk 0 (sk 108 0 15 (lv 108 0))) ⟨[(0,t0),(3,t3),(4,t4)],[]⟩
def LZ (t0 t3 t4 t5:V) (m0:Nat):Rv:=lp W 108 2 (cd 108 8779) (bk 2 (sk 108 1 3659 (bk 1 (sk 108 0 459 (lk 108 0 m0 75 (bk 0 (sk 108 0 15 (lv 108 0)))))))) ⟨[(0,t0),(3,t3),(4,t4),(5,t5)],[]⟩
theorem NM (t0 t3 t4 t5:V) (m0:Nat):LZ t0 t3 t4 t5 m0=
 jn (fun a4=>
 V.ite a4
  ((AO .add t5 (V.int .i64 1)).bind fun a5=>LZ t0 t3 t4 a5 m0)
  ((KX 108 false (ck [] [])).bind fun a6=>(slL 108 (V.weak t3) none (some t5) none).bind fun a7=>(GK 108 (BJ 107) false [] a6 a7).bind fun a8=>(Di 108 (V.weak t0) t4).bind fun a9=>(Ae [] 108 a9).bind fun a10=>(KX 108 false (ck [(BJ 107) a10] [a10])).bind fun a11=>(GK 108 (BJ 107) false [] a8 a11).bind fun a12=>(slL 108 (V.weak t3) (some t5) none none).bind fun a13=>(GK 108 (BJ 107) false [] a12 a13).bind fun a14=>(AO .add t4 (V.int .i64 1)).bind fun a15=>JQ t0 a14 a15)) (fun(a16:V→Rv)=>(D8 (V.weak t3)).bind fun a17=>(AO .lss t5 a17).bind fun a18=>V.ite a18 ((Di 108 (V.weak t0) t4).bind fun a19=>(Ae [] 108 a19).bind fun a20=>(Di 108 (V.weak t3) t5).bind fun a21=>(Ae [] 108 a21).bind fun a22=>(Cl 129 (AL [] [a20,a22]) []).bind fun a23=>(un .not a23.1).bind fun a24=>a16 a24) (a16 (V.bool false))):=
 Ce (by kernel_rfl)
theorem NP (t0 t3 t4:V):JQ t0 t3 t4=
 (D8 (V.weak t0)).bind fun a2=>(AO .lss t4 a2).bind fun a3=>V.ite a3
  (LZ t0 t3 t4 (V.int .i64 0) 0)
  (AY 0 [] t3):=
 Ce (by kernel_rfl)
theorem AEB (t0:V):Cl 108 [t0] []=
 (KX 108 false (ck [] [])).bind fun a1=>JQ t0 a1 (V.int .i64 0):=
 BD (by kernel_rfl)
def La (t0 t1 t7 t8:V) (n:Nat) (h:List V):Rv:=lp W 112 0 (cd 112 37) (bk 0 (sk 112 0 7 (lv 112 n))) ⟨[(0,t0),(1,t1),(7,t7),(8,t8)],h⟩
theorem NQ (t0 t1 t7 t8:V) (n:Nat) (h:List V):La t0 t1 t7 t8 n h=
 (AO .lss t8 t7).bind fun a2=>V.ite a2
  ((Di 112 (V.weak t0) t8).bind fun a3=>(Ae h 112 a3).bind fun a4=>CP P D9 W t1 [a4] h fun a5 a6=>if V.noOwn a5=true then V.ite a5
  (AY n a6 t8)
  ((AO .add t8 (V.int .i64 1)).bind fun a7=>La t0 t1 t7 a7 n a6)else none)
  (AY n h (V.int .i64 (-1))):=
 Ce (by kernel_rfl)
theorem AEC (t0 t1:V) (h:List V):Cl 112 [t0,t1] h=
 (D8 (V.weak t0)).bind fun a1=>La t0 t1 a1 (V.int .i64 0) (List.length h) h:=
 BD (by kernel_rfl)
theorem AED (t0:V) (h:List V):Cl 113 [t0] h=
 (Zb 115 112 [(V.lst 112 .nil []),t0] h).bind fun a1=>UB a1.2 a1.1:=
 BD (by kernel_rfl)
def Lc (t0 t1 t7 t8:V):Rv:=lp W 116 0 (cd 116 37) (bk 0 (sk 116 0 7 (lv 116 0))) ⟨[(0,t0),(1,t1),(7,t7),(8,t8)],[]⟩
theorem NR (t0 t1 t7 t8:V):Lc t0 t1 t7 t8=
 (AO .lss t8 t7).bind fun a2=>V.ite a2
  ((Di 9 (V.weak t0) t8).bind fun a3=>(Ae [] 9 a3).bind fun a4=>(AO .eql t1 a4).bind fun a5=>V.ite a5
  (AY 0 [] t8)
  ((AO .add t8 (V.int .i64 1)).bind fun a6=>Lc t0 t1 t7 a6))
  (AY 0 [] (V.int .i64 (-1))):=
 Ce (by kernel_rfl)
theorem AEE (t0 t1:V):Cl 116 [t0,t1] []=
 (D8 (V.weak t0)).bind fun a1=>Lc t0 t1 a1 (V.int .i64 0):=
 BD (by kernel_rfl)
def YF (h:List V) (k:V→List V→Rv):Rv:=
 k (V.ref (List.length h) [] 55) (h++[zero P 55])
def YG (t0:V) (h:List V) (k:V→Rv):Rv:=
 (Cl 135 (AL h [t0,(V.lst 5 .nil [])]) []).bind fun r=>k r.1
def YH (t3:V) (h:List V) (k:V→Rv):Rv:=
 (lenV P 68 (V.weak t3)).bind fun t12=>(conv P h 3 93 t12).bind fun t13=>(AO .mul t13 (V.int .u64 8)).bind fun t14=>k t14
def YI (t3:V) (h:List V) (k:V→Rv):Rv:=
 (EO P 68 1 [(0,(V.int .u8 128))]).bind fun t16=>(D5 P 68 h t3 t16).bind fun t17=>k t17
def Ld (t2 t3 t4:V) (h:List V):Rv:=lp W 117 0 (cd 117 143) (bk 0 (sk 117 0 63 (lv 117 0))) ⟨[(2,t2),(3,t3),(4,t4)],h⟩
def SQ (t3:V) (k:V→Rv):Rv:=
 (lenV P 68 (V.weak t3)).bind fun t19=>(AO .rem t19 (V.int .i64 64)).bind fun t20=>(AO .neq t20 (V.int .i64 56)).bind fun t21=>k t21
def YJ (t3:V) (h:List V) (k:V→Rv):Rv:=
 (EO P 68 1 [(0,(V.int .u8 0))]).bind fun t23=>(D5 P 68 h t3 t23).bind fun t24=>k t24
def YK (k:V→Rv):Rv:=
 k (V.int .i64 0)
def Le (t2 t3 t4 t25:V) (h:List V):Rv:=lp W 117 2 (cd 117 607) (bk 2 (sk 117 0 127 (lv 117 0))) ⟨[(2,t2),(3,t3),(4,t4),(25,t25)],h⟩
def SS (t25:V) (k:V→Rv):Rv:=
 (AO .lss t25 (V.int .i64 8)).bind fun t26=>k t26
def YL (t25:V) (k:V→Rv):Rv:=
 k t25
def YM (t3 t4 t5:V) (h:List V) (k:V→Rv):Rv:=
 (AO .mul (V.int .i64 8) t5).bind fun t31=>(AO .sub (V.int .i64 56) t31).bind fun t32=>(conv P h 3 126 t32).bind fun t33=>(AO .shr t4 t33).bind fun t34=>(conv P h 93 5 t34).bind fun t35=>(EO P 68 1 [(0,t35)]).bind fun t36=>(D5 P 68 h t3 t36).bind fun t37=>k t37
def UH (t25:V) (k:V→Rv):Rv:=
 (AO .add t25 (V.int .i64 1)).bind fun t38=>k t38
def UI (h:List V) (k:V→List V→Rv):Rv:=
 (Ae h 184 (V.rop 184 QE)).bind fun t39=>(Ht P (h++[zero P 184]) 184 (V.ref (List.length h) [] 184) t39).bind fun a1=>k (V.ref (List.length h) [] 184) a1
def Lh (t2 t3 t6:V) (h:List V):Rv:=lp W 117 4 (cd 117 1151) (bk 4 (sk 117 0 511 (lv 117 0))) ⟨[(2,t2),(3,t3),(6,t6)],h⟩
def NS (t3:V) (k:V→Rv):Rv:=
 (lenV P 68 (V.weak t3)).bind fun t41=>(AO .gtr t41 (V.int .i64 0)).bind fun t42=>k t42
def UJ (t3 t6:V) (h:List V) (k:List V→Rv):Rv:=
 (Ae h 184 t6).bind fun t45=>(LV P 68 (V.weak t3) none (some (V.int .i64 64)) none).bind fun t47=>(Cl 136 (AL h [t45,t47]) []).bind fun r=>(Ht P h 184 t6 r.1).bind fun a1=>k a1
def UK (t3:V) (k:V→Rv):Rv:=
 (LV P 68 t3 (some (V.int .i64 64)) none none).bind fun t44=>k t44
def UL (h:List V) (k:V→List V→Rv):Rv:=
 k (V.ref (List.length h) [] 55) (h++[zero P 55])
def UM (k:V→Rv):Rv:=
 k (V.int .i64 0)
def Lj (t2 t6 t7 t49:V) (h:List V):Rv:=lp W 117 6 (cd 117 9727) (bk 6 (sk 117 0 2047 (lv 117 0))) ⟨[(2,t2),(6,t6),(7,t7),(49,t49)],h⟩
def NT (t49:V) (k:V→Rv):Rv:=
 (AO .lss t49 (V.int .i64 32)).bind fun t50=>k t50
def UN (t49:V) (k:V→Rv):Rv:=
 k t49
def NU (t6 t7 t8:V) (h:List V) (k:List V→Rv):Rv:=
 (AO .quo t8 (V.int .i64 4)).bind fun t54=>(Ag P 184 t6 t54).bind fun t55=>(Ae h 149 t55).bind fun t56=>(AO .rem t8 (V.int .i64 4)).bind fun t58=>(AO .mul (V.int .i64 8) t58).bind fun t59=>(AO .sub (V.int .i64 24) t59).bind fun t60=>(conv P h 3 126 t60).bind fun t61=>(AO .shr t56 t61).bind fun t62=>(conv P h 149 5 t62).bind fun t63=>(Ag P 55 t7 t8).bind fun t64=>(Ht P h 5 t64 t63).bind fun a1=>k a1
def UO (t49:V) (k:V→Rv):Rv:=
 (AO .add t49 (V.int .i64 1)).bind fun t65=>k t65
def UQ (t2 t7:V) (h:List V) (k:List V→Rv):Rv:=
 (Ae h 55 t7).bind fun t66=>(Ht P h 55 t2 t66).bind fun a1=>k a1
theorem NV (t2 t6 t7 t49:V) (h:List V):Lj t2 t6 t7 t49 h=
 NT t49 fun a21=>
  V.ite a21
  (UN t49 fun a22=>
  NU t6 t7 a22 h fun a23=>
  UO t49 fun a24=>
  Lj t2 t6 t7 a24 a23)
  (UQ t2 t7 h fun a25=>
  (Ae a25 55 t2).bind fun a26=>AY 0 a25 a26):=
 Ce (by kernel_rfl)
theorem NW (t2 t3 t6:V) (h:List V):Lh t2 t3 t6 h=
 NS t3 fun a15=>
  V.ite a15
  (UJ t3 t6 h fun a16=>
  UK t3 fun a17=>
  Lh t2 a17 t6 a16)
  (UL h fun a18 a19=>
  UM fun a20=>
  Lj t2 t6 a18 a20 a19):=
 Ce (by kernel_rfl)
theorem NY (t2 t3 t4 t25:V) (h:List V):Le t2 t3 t4 t25 h=
 SS t25 fun a9=>
  V.ite a9
  (YL t25 fun a10=>
  YM t3 t4 a10 h fun a11=>
  UH t25 fun a12=>
  Le t2 a11 t4 a12 h)
  (UI h fun a13 a14=>
  Lh t2 t3 a13 a14):=
 Ce (by kernel_rfl)
theorem NZ (t2 t3 t4:V) (h:List V):Ld t2 t3 t4 h=
 SQ t3 fun a6=>
  V.ite a6
  (YJ t3 h fun a7=>
  Ld t2 a7 t4 h)
  (YK fun a8=>
  Le t2 t3 t4 a8 h):=
 Ce (by kernel_rfl)
theorem AEF (t0:V):Cl 117 [t0] []=
 YF [] fun a1 a2=>
  YG t0 a2 fun a3=>
  YH a3 a2 fun a4=>
  YI a3 a2 fun a5=>
  Ld a1 a5 a4 a2:=
 BD (by kernel_rfl)
def YN (h:List V) (k:V→List V→Rv):Rv:=
 k (V.ref (List.length h) [] 55) (h++[zero P 55])
def YO (t0 t2:V) (h:List V) (k:List V→Rv):Rv:=
 (EO P 68 1 [(0,(V.int .u8 0))]).bind fun t3=>(conv P h 9 68 t0).bind fun t5=>(EO P 182 2 [(0,t3),(1,t5)]).bind fun t6=>(Cl 117 (AL h [t6]) []).bind fun r=>(Ht P h 55 t2 r.1).bind fun a1=>k a1
theorem AEG (t0:V):Cl 118 [t0] []=
 YN [] fun a1 a2=>
  YO t0 a1 a2 fun a3=>
  (Ae a3 55 a1).bind fun a4=>AY 0 a3 a4:=
 BD (by kernel_rfl)
def Ll (t0 t3:V):Rv:=lp W 119 0 (cd 119 71) (bk 0 (sk 119 0 31 (lv 119 0))) ⟨[(0,t0),(3,t3)],[]⟩
theorem Wi (t0 t3:V):Ll t0 t3=
 (AO .sub t0 t3).bind fun a2=>(AO .lss t3 a2).bind fun a3=>V.ite a3
  ((AO .mul t3 (V.int .i64 2)).bind fun a4=>Ll t0 a4)
  (AY 0 [] t3):=
 Ce (by kernel_rfl)
theorem AEH (t0:V):Cl 119 [t0] []=
 (AO .lss t0 (V.int .i64 2)).bind fun a1=>V.ite a1
  (AY 0 [] (V.int .i64 0))
  (Ll t0 (V.int .i64 1)):=
 BD (by kernel_rfl)
theorem AEI (t0 t1:V):Cl 120 [t0,t1] []=
 if((BJ 54) t0&&V.under 0 t0)=true then if((BJ 54) t1&&V.under 1 t1)=true then(KX 5 false (ck [(Ph .u8) (V.int .u8 1)] [(V.int .u8 1)])).bind fun a1=>(slA 55 54 32 5 (V.ref 0 [] 55) none none none).bind fun a2=>(slA 55 54 32 5 (V.ref 1 [] 55) none none none).bind fun a3=>(KX 68 true (ck [(Pq 5) a1,(Pq 5) a2,(Pq 5) a3] [(V.weak a1),(V.weak a2),(V.weak a3)])).bind fun a4=>(Cl 117 (AL [t0,t1,(V.agg 54 (List.replicate 32 (V.int .u8 0)))] [a4]) []).bind fun a5=>(DR (BJ 54) 55 [t0,t1,(V.agg 54 (List.replicate 32 (V.int .u8 0)))] (V.ref 2 [] 55) a5.1).bind fun a6=>(Ae a6 55 (V.ref 2 [] 55)).bind fun a7=>AY 0 a6 a7 else none else none:=
 BD (by kernel_rfl)
theorem AEJ (t0:V):Cl 121 [t0] []=
 jn (fun a1=>
 AY 0 [] a1) (fun(a2:V→Rv)=>(AO .gtr t0 (V.int .i64 1125899906842624)).bind fun a3=>V.ite a3 (a2 (V.bool true)) ((AO .lss t0 (V.int .i64 (-1125899906842624))).bind fun a4=>a2 a4)):=
 BD (by kernel_rfl)
theorem AEK (t0 t1:V):Cl 129 [t0,t1] []=
 if((BJ 107) t0&&V.under 0 t0)=true then if((BJ 107) t1&&V.under 1 t1)=true then(fA 108 3 1 (V.ref 0 [] 108)).bind fun a1=>(Ae [t0,t1] 3 a1).bind fun a2=>(fA 108 3 1 (V.ref 1 [] 108)).bind fun a3=>(Ae [t0,t1] 3 a3).bind fun a4=>(AO .neq a2 a4).bind fun a5=>V.ite a5
  ((fA 108 3 1 (V.ref 0 [] 108)).bind fun a6=>(Ae [t0,t1] 3 a6).bind fun a7=>(fA 108 3 1 (V.ref 1 [] 108)).bind fun a8=>(Ae [t0,t1] 3 a8).bind fun a9=>(AO .lss a7 a9).bind fun a10=>AY 0 [t0,t1] a10)
  ((fA 108 3 0 (V.ref 0 [] 108)).bind fun a11=>(Ae [t0,t1] 3 a11).bind fun a12=>(fA 108 3 0 (V.ref 1 [] 108)).bind fun a13=>(Ae [t0,t1] 3 a13).bind fun a14=>(AO .neq a12 a14).bind fun a15=>V.ite a15
  ((fA 108 3 0 (V.ref 0 [] 108)).bind fun a16=>(Ae [t0,t1] 3 a16).bind fun a17=>(fA 108 3 0 (V.ref 1 [] 108)).bind fun a18=>(Ae [t0,t1] 3 a18).bind fun a19=>(AO .lss a17 a19).bind fun a20=>AY 0 [t0,t1] a20)
  ((fA 108 2 2 (V.ref 0 [] 108)).bind fun a21=>(Ae [t0,t1] 2 a21).bind fun a22=>(fA 108 2 2 (V.ref 1 [] 108)).bind fun a23=>(Ae [t0,t1] 2 a23).bind fun a24=>(AO .lss a22 a24).bind fun a25=>AY 0 [t0,t1] a25))else none else none:=
 BD (by kernel_rfl)
def YP (k:Rv):Rv:=
 k
def YQ (t0:V) (k:V→Rv):Rv:=
 (lenV P 182 (V.weak t0)).bind fun t13=>(AO .eql t13 (V.int .i64 0)).bind fun t14=>k t14
def AEL (h:List V) (k:V→List V→Rv):Rv:=
 (EO P 68 0 []).bind fun v=>(Dh h v).bind fun r=>k r.1 r.2
def YR (t0:V) (k:V→Rv):Rv:=
 (lenV P 182 (V.weak t0)).bind fun t17=>(AO .eql t17 (V.int .i64 1)).bind fun t18=>k t18
def YS (t0:V) (h:List V) (k:V→List V→Rv):Rv:=
 (Ag P 182 t0 (V.int .i64 0)).bind fun t20=>(BI h 68 t20).bind fun t21=>(D5 P 68 h (V.lst 5 .nil []) t21).bind fun v=>(Dh h v).bind fun r=>k r.1 r.2
def YT (k:V→Rv):Rv:=
 k (V.int .i64 0)
def YU (t1:V) (k:V→Rv):Rv:=
 (lenV P 68 (V.weak t1)).bind fun t24=>(AO .gtr t24 (V.int .i64 0)).bind fun t25=>k t25
def UR (t0:V) (k:V→V→V→Rv):Rv:=
 (lenV P 182 (V.weak t0)).bind fun t43=>k (V.weak t0) t43 (V.int .i64 0)
def Lm (t0 t1 t5 t42 t43 t44:V) (h:List V):Rv:=lp W 135 0 (cd 135 607) (bk 0 (sk 135 0 127 (lv 135 0))) ⟨[(0,t0),(1,t1),(5,t5),(42,t42),(43,t43),(44,t44)],h⟩
def Na (t43 t44:V) (k:V→Rv):Rv:=
 (AO .lss t44 t43).bind fun t45=>k t45
def UU (t42 t44:V) (h:List V) (k:V→Rv):Rv:=
 (Ag P 182 t42 t44).bind fun t46=>(BI h 68 t46).bind fun t47=>k t47
def UW (t5 t7:V) (k:V→Rv):Rv:=
 (lenV P 68 (V.weak t7)).bind fun t49=>(AO .sub (V.int .i64 9223372036854775807) t5).bind fun t51=>(AO .gtr t49 t51).bind fun t52=>k t52
def UX (t5 t7:V) (k:V→Rv):Rv:=
 (lenV P 68 t7).bind fun t56=>(AO .add t5 t56).bind fun t57=>k t57
def UY (t44:V) (k:V→Rv):Rv:=
 (AO .add t44 (V.int .i64 1)).bind fun t58=>k t58
def UZ (t5:V) (h:List V) (k:V→List V→Rv):Rv:=
 mnz P 0 155 [t5] h fun t60 a1=>(LV P 68 t60 none (some t5) (some t5)).bind fun t63=>k t63 a1
def Ua (t0 t8:V) (h:List V) (k:V→List V→Rv):Rv:=
 (Ag P 182 (V.weak t0) (V.int .i64 0)).bind fun t66=>(BI h 68 t66).bind fun t67=>(cpy P 68 h (V.weak t8) t67).bind fun r=>k r.1 r.2
def Ub (t0:V) (k:V→V→V→Rv):Rv:=
 (LV P 182 t0 (some (V.int .i64 1)) none none).bind fun t70=>(lenV P 182 t70).bind fun t71=>k t70 t71 (V.int .i64 0)
def Lp (t1 t8 t9 t70 t71 t72:V) (h:List V):Rv:=lp W 135 2 (cd 135 4863) (bk 2 (sk 135 0 1023 (lv 135 0))) ⟨[(1,t1),(8,t8),(9,t9),(70,t70),(71,t71),(72,t72)],h⟩
def Nb (t71 t72:V) (k:V→Rv):Rv:=
 (AO .lss t72 t71).bind fun t73=>k t73
def Uc (t70 t72:V) (h:List V) (k:V→Rv):Rv:=
 (Ag P 182 t70 t72).bind fun t74=>(BI h 68 t74).bind fun t75=>k t75
def Ud (t1 t8 t9:V) (h:List V) (k:V→List V→Rv):Rv:=
 (LV P 68 (V.weak t8) (some t9) none none).bind fun t79=>(cpy P 68 h t79 (V.weak t1)).bind fun r=>(AO .add t9 r.1).bind fun t82=>k t82 r.2
def Ue (t8 t9 t11:V) (h:List V) (k:V→List V→Rv):Rv:=
 (LV P 68 (V.weak t8) (some t9) none none).bind fun t86=>(cpy P 68 h t86 t11).bind fun r=>(AO .add t9 r.1).bind fun t89=>k t89 r.2
def Uf (t72:V) (k:V→Rv):Rv:=
 (AO .add t72 (V.int .i64 1)).bind fun t90=>k t90
def Ug (t8:V) (k:V→Rv):Rv:=
 k t8
theorem Nc (t1 t8 t9 t70 t71 t72:V) (h:List V):Lp t1 t8 t9 t70 t71 t72 h=
 Nb t71 t72 fun a25=>
  V.ite a25
  (Uc t70 t72 h fun a26=>
  Ud t1 t8 t9 h fun a27 a28=>
  Ue t8 a27 a26 a28 fun a29 a30=>
  Uf t72 fun a31=>
  Lp t1 t8 a29 t70 t71 a31 a30)
  (Ug t8 fun a32=>
  Po 0 h a32):=
 Ce (by kernel_rfl)
theorem Nh (t0 t1 t5 t42 t43 t44:V) (h:List V):Lm t0 t1 t5 t42 t43 t44 h=
 Na t43 t44 fun a13=>
  V.ite a13
  (UU t42 t44 h fun a14=>
  UW t5 a14 fun a15=>
  V.ite a15
  (none)
  (UX t5 a14 fun a16=>
  UY t44 fun a17=>
  Lm t0 t1 a16 t42 t43 a17 h))
  (UZ t5 h fun a18 a19=>
  Ua t0 a18 a19 fun a20 a21=>
  Ub t0 fun a22 a23 a24=>
  Lp t1 a18 a20 a22 a23 a24 a21):=
 Ce (by kernel_rfl)
def AEM (t0 t1:V) (k:V→Rv):Rv:=
 (lenV P 68 (V.weak t1)).bind fun t27=>(lenV P 182 (V.weak t0)).bind fun t29=>(AO .sub t29 (V.int .i64 1)).bind fun t30=>(AO .quo (V.int .i64 9223372036854775807) t30).bind fun t31=>(AO .geq t27 t31).bind fun t32=>k t32
def AEN (t0 t1 t5:V) (k:V→Rv):Rv:=
 (lenV P 68 (V.weak t1)).bind fun t36=>(lenV P 182 (V.weak t0)).bind fun t38=>(AO .sub t38 (V.int .i64 1)).bind fun t39=>(AO .mul t36 t39).bind fun t40=>(AO .add t5 t40).bind fun t41=>k t41
theorem AEO (t0 t1:V):Cl 135 [t0,t1] []=
 YP (YQ t0 fun a1=>
  V.ite a1
  (AEL [] fun a2 a3=>
  Po 0 a3 a2)
  (YR t0 fun a4=>
  V.ite a4
  (YS t0 [] fun a5 a6=>
  Po 0 a6 a5)
  (YT fun a7=>
  YU t1 fun a8=>
  jn (fun a9=>UR t0 fun a10 a11 a12=>
  Lm t0 t1 a9 a10 a11 a12 [])
  (fun(j0:V→Rv)=>V.ite a8
  (AEM t0 t1 fun a33=>
  V.ite a33
  (none)
  (AEN t0 t1 a7 fun a34=>
  j0 a34))
  (j0 a7))))):=
 BD (JP<|UF (fun K=>K ⟨[(0,t0),(1,t1)],[]⟩) (Ir<|JP<|JP<|UF (fun K u14=>K ⟨[(0,t0),(1,t1),(14,u14)],[]⟩) (funext fun a1=>Ir<|WR (by kernel_rfl) (ABB<|Ir<|JP<|JP<|UF (fun K u18=>K ⟨[(0,t0),(1,t1),(18,u18)],[]⟩) (funext fun a4=>Ir<|WR (by kernel_rfl) (ABB<|Ir<|JP<|UF (fun K u5=>K ⟨[(0,t0),(1,t1),(5,u5)],[]⟩) (funext fun a7=>Ir<|JP<|JP<|UF (fun K u25=>K ⟨[(0,t0),(1,t1),(5,a7),(25,u25)],[]⟩) (funext fun a8=>Ir<|AL7 (fun K a9=>K ⟨[(0,t0),(1,t1),(5,a9)],[]⟩) (funext fun a9=>by kernel_rfl) (WR (by kernel_rfl) (by kernel_rfl))))))))))
def YV (t0:V) (h:List V) (k:V→V→List V→Rv):Rv:=
 if(BQ P 184 t0&&V.under (List.length h) t0)=true then k (V.ref (List.length h) [] 184) (V.ref (List.length (h++[t0])) [] 184) ((h++[t0])++[zero P 184])else none
def YW (h:List V) (k:V→List V→Rv):Rv:=
 k (V.ref (List.length h) [] 204) (h++[zero P 204])
def YX (k:V→Rv):Rv:=
 k (V.int .i64 0)
def Lr (t1 t2 t4 t5 t23:V) (h:List V):Rv:=lp W 136 0 (cd 136 75) (bk 0 (sk 136 0 15 (lv 136 0))) ⟨[(1,t1),(2,t2),(4,t4),(5,t5),(23,t23)],h⟩
def SV (t23:V) (k:V→Rv):Rv:=
 (AO .lss t23 (V.int .i64 16)).bind fun t24=>k t24
def YZ (t23:V) (k:V→Rv):Rv:=
 k t23
def Ya (t1 t6:V) (k:V→Rv):Rv:=
 (AO .mul (V.int .i64 4) t6).bind fun t28=>(AO .mul (V.int .i64 4) t6).bind fun t30=>(AO .add t30 (V.int .i64 4)).bind fun t31=>(LV P 68 (V.weak t1) (some t28) (some t31) none).bind fun t32=>k t32
def SX (t5 t6 t7:V) (h:List V) (k:List V→Rv):Rv:=
 (Ag P 68 (V.weak t7) (V.int .i64 0)).bind fun t35=>(Ae h 5 t35).bind fun t36=>(conv P h 5 149 t36).bind fun t37=>(AO .shl t37 (V.int .u64 24)).bind fun t38=>(Ag P 68 (V.weak t7) (V.int .i64 1)).bind fun t40=>(Ae h 5 t40).bind fun t41=>(conv P h 5 149 t41).bind fun t42=>(AO .shl t42 (V.int .u64 16)).bind fun t43=>(AO .or t38 t43).bind fun t44=>(Ag P 68 (V.weak t7) (V.int .i64 2)).bind fun t46=>(Ae h 5 t46).bind fun t47=>(conv P h 5 149 t47).bind fun t48=>(AO .shl t48 (V.int .u64 8)).bind fun t49=>(AO .or t44 t49).bind fun t50=>(Ag P 68 (V.weak t7) (V.int .i64 3)).bind fun t52=>(Ae h 5 t52).bind fun t53=>(conv P h 5 149 t53).bind fun t54=>(AO .or t50 t54).bind fun t55=>(Ag P 204 t5 t6).bind fun t56=>(Ht P h 149 t56 t55).bind fun a1=>k a1
def Yb (t23:V) (k:V→Rv):Rv:=
 (AO .add t23 (V.int .i64 1)).bind fun t57=>k t57
def Yc (k:V→Rv):Rv:=
 k (V.int .i64 16)
def Ls (t2 t4 t5 t8:V) (h:List V):Rv:=lp W 136 2 (cd 136 151) (bk 2 (sk 136 0 31 (lv 136 0))) ⟨[(2,t2),(4,t4),(5,t5),(8,t8)],h⟩
def SY (t8:V) (k:V→Rv):Rv:=
 (AO .lss t8 (V.int .i64 64)).bind fun t59=>k t59
def Nj (t5 t8:V) (h:List V) (k:V→Rv):Rv:=
 (AO .sub t8 (V.int .i64 15)).bind fun t63=>(Ag P 204 t5 t63).bind fun t64=>(Ae h 149 t64).bind fun t65=>(Cl 156 (AL h [t65,(V.int .i64 7)]) []).bind fun r=>(AO .sub t8 (V.int .i64 15)).bind fun t68=>(Ag P 204 t5 t68).bind fun t69=>(Ae h 149 t69).bind fun t70=>(Cl 156 (AL h [t70,(V.int .i64 18)]) []).bind fun a1=>(AO .xor r.1 a1.1).bind fun t72=>(AO .sub t8 (V.int .i64 15)).bind fun t74=>(Ag P 204 t5 t74).bind fun t75=>(Ae h 149 t75).bind fun t76=>(AO .shr t76 (V.int .u64 3)).bind fun t77=>(AO .xor t72 t77).bind fun t78=>k t78
def Nk (t5 t8:V) (h:List V) (k:V→Rv):Rv:=
 (AO .sub t8 (V.int .i64 2)).bind fun t80=>(Ag P 204 t5 t80).bind fun t81=>(Ae h 149 t81).bind fun t82=>(Cl 156 (AL h [t82,(V.int .i64 17)]) []).bind fun r=>(AO .sub t8 (V.int .i64 2)).bind fun t85=>(Ag P 204 t5 t85).bind fun t86=>(Ae h 149 t86).bind fun t87=>(Cl 156 (AL h [t87,(V.int .i64 19)]) []).bind fun a1=>(AO .xor r.1 a1.1).bind fun t89=>(AO .sub t8 (V.int .i64 2)).bind fun t91=>(Ag P 204 t5 t91).bind fun t92=>(Ae h 149 t92).bind fun t93=>(AO .shr t93 (V.int .u64 10)).bind fun t94=>(AO .xor t89 t94).bind fun t95=>k t95
def Nl (t5 t8 t9 t10:V) (h:List V) (k:List V→Rv):Rv:=
 (AO .sub t8 (V.int .i64 16)).bind fun t98=>(Ag P 204 t5 t98).bind fun t99=>(Ae h 149 t99).bind fun t100=>(AO .sub t8 (V.int .i64 7)).bind fun t102=>(Ag P 204 t5 t102).bind fun t103=>(Ae h 149 t103).bind fun t104=>(AO .add t100 t104).bind fun t105=>(AO .add t105 t9).bind fun t107=>(AO .add t107 t10).bind fun t109=>(Ag P 204 t5 t8).bind fun t110=>(Ht P h 149 t110 t109).bind fun a1=>k a1
def Uh (t8:V) (k:V→Rv):Rv:=
 (AO .add t8 (V.int .i64 1)).bind fun t61=>k t61
def Ui (t2:V) (h:List V) (k:V→List V→Rv):Rv:=
 (Ae h 184 t2).bind fun t111=>(Ht P (h++[zero P 184]) 184 (V.ref (List.length h) [] 184) t111).bind fun a1=>k (V.ref (List.length h) [] 184) a1
def AB0 (k:V→Rv):Rv:=
 k (V.int .i64 0)
def Lu (t2 t4 t5 t11 t112:V) (h:List V):Rv:=lp W 136 4 (cd 136 607) (bk 4 (sk 136 0 127 (lv 136 0))) ⟨[(2,t2),(4,t4),(5,t5),(11,t11),(112,t112)],h⟩
def Np (t112:V) (k:V→Rv):Rv:=
 (AO .lss t112 (V.int .i64 64)).bind fun t113=>k t113
def Uj (t112:V) (k:V→Rv):Rv:=
 k t112
def Nq (t11:V) (h:List V) (k:V→V→V→V→V→V→Rv):Rv:=
 (Ag P 184 t11 (V.int .i64 0)).bind fun t115=>(Ae h 149 t115).bind fun t116=>(Ag P 184 t11 (V.int .i64 1)).bind fun t117=>(Ae h 149 t117).bind fun t118=>(Ag P 184 t11 (V.int .i64 2)).bind fun t119=>(Ae h 149 t119).bind fun t120=>(Ag P 184 t11 (V.int .i64 4)).bind fun t121=>(Ae h 149 t121).bind fun t122=>(Ag P 184 t11 (V.int .i64 5)).bind fun t123=>(Ae h 149 t123).bind fun t124=>(Ag P 184 t11 (V.int .i64 6)).bind fun t125=>(Ae h 149 t125).bind fun t126=>k t116 t118 t120 t122 t124 t126
def Nr (t5 t11 t12 t16 t17 t18:V) (h:List V) (k:V→Rv):Rv:=
 (Ag P 184 t11 (V.int .i64 7)).bind fun t127=>(Ae h 149 t127).bind fun t128=>(Cl 156 (AL h [t16,(V.int .i64 6)]) []).bind fun r=>(Cl 156 (AL h [t16,(V.int .i64 11)]) []).bind fun a1=>(AO .xor r.1 a1.1).bind fun t133=>(Cl 156 (AL h [t16,(V.int .i64 25)]) []).bind fun a2=>(AO .xor t133 a2.1).bind fun t136=>(AO .add t128 t136).bind fun t137=>(AO .xor t17 t18).bind fun t142=>(AO .and t16 t142).bind fun t143=>(AO .xor t18 t143).bind fun t144=>(AO .add t137 t144).bind fun t145=>(Ag P 204 (V.rop 204 NC) t12).bind fun t147=>(Ae h 149 t147).bind fun t148=>(AO .add t145 t148).bind fun t149=>(Ag P 204 t5 t12).bind fun t151=>(Ae h 149 t151).bind fun t152=>(AO .add t149 t152).bind fun t153=>k t153
def Ns (t13 t14 t15:V) (h:List V) (k:V→Rv):Rv:=
 (Cl 156 (AL h [t13,(V.int .i64 2)]) []).bind fun r=>(Cl 156 (AL h [t13,(V.int .i64 13)]) []).bind fun a1=>(AO .xor r.1 a1.1).bind fun t158=>(Cl 156 (AL h [t13,(V.int .i64 22)]) []).bind fun a2=>(AO .xor t158 a2.1).bind fun t161=>(AO .and t13 t14).bind fun t164=>(AO .or t13 t14).bind fun t168=>(AO .and t15 t168).bind fun t169=>(AO .or t164 t169).bind fun t170=>(AO .add t161 t170).bind fun t171=>k t171
def Nu (t11 t13 t14 t15 t16 t17 t18 t19 t20:V) (h:List V) (k:List V→Rv):Rv:=
 (AO .add t19 t20).bind fun t174=>(Ag P 184 t11 (V.int .i64 3)).bind fun t178=>(Ae h 149 t178).bind fun t179=>(AO .add t179 t19).bind fun t181=>(bld P 184 [(0,t174),(1,t13),(2,t14),(3,t15),(4,t181),(5,t16),(6,t17),(7,t18)]).bind fun t185=>(Ht P h 184 t11 t185).bind fun a1=>k a1
def Uk (t112:V) (k:V→Rv):Rv:=
 (AO .add t112 (V.int .i64 1)).bind fun t186=>k t186
def Ul (t11:V) (h:List V) (k:V→V→Rv):Rv:=
 (Ae h 184 t11).bind fun t187=>k t187 (V.int .i64 0)
def L6 (t2 t4 t187 t188:V) (h:List V):Rv:=lp W 136 6 (cd 136 1215) (bk 6 (sk 136 0 255 (lv 136 0))) ⟨[(2,t2),(4,t4),(187,t187),(188,t188)],h⟩
def Nv (t188:V) (k:V→Rv):Rv:=
 (AO .lss t188 (V.int .i64 8)).bind fun t189=>k t189
def Um (t187 t188:V) (k:V→V→Rv):Rv:=
 (Jz P 184 t187 t188).bind fun t191=>k t188 t191
def Un (t2 t21 t22:V) (h:List V) (k:List V→Rv):Rv:=
 (Ag P 184 t2 t21).bind fun t193=>(Ae h 149 t193).bind fun t194=>(AO .add t194 t22).bind fun t196=>(Ag P 184 t2 t21).bind fun t197=>(Ht P h 149 t197 t196).bind fun a1=>k a1
def Uo (t188:V) (k:V→Rv):Rv:=
 (AO .add t188 (V.int .i64 1)).bind fun t198=>k t198
def Ur (t2 t4:V) (h:List V) (k:List V→Rv):Rv:=
 (Ae h 184 t2).bind fun t199=>(Ht P h 184 t4 t199).bind fun a1=>k a1
theorem Nw (t2 t4 t187 t188:V) (h:List V):L6 t2 t4 t187 t188 h=
 Nv t188 fun a35=>
  V.ite a35
  (Um t187 t188 fun a36 a37=>
  Un t2 a36 a37 h fun a38=>
  Uo t188 fun a39=>
  L6 t2 t4 t187 a39 a38)
  (Ur t2 t4 h fun a40=>
  (Ae a40 184 t4).bind fun a41=>AY 0 a40 a41):=
 Ce (by kernel_rfl)
theorem Ny (t2 t4 t5 t11 t112:V) (h:List V):Lu t2 t4 t5 t11 t112 h=
 Np t112 fun a21=>
  V.ite a21
  (Uj t112 fun a22=>
  Nq t11 h fun a23 a24 a25 a26 a27 a28=>
  Nr t5 t11 a22 a26 a27 a28 h fun a29=>
  Ns a23 a24 a25 h fun a30=>
  Nu t11 a23 a24 a25 a26 a27 a28 a29 a30 h fun a31=>
  Uk t112 fun a32=>
  Lu t2 t4 t5 t11 a32 a31)
  (Ul t11 h fun a33 a34=>
  L6 t2 t4 a33 a34 h):=
 Ce (by kernel_rfl)
theorem Nz (t2 t4 t5 t8:V) (h:List V):Ls t2 t4 t5 t8 h=
 SY t8 fun a13=>
  V.ite a13
  (Nj t5 t8 h fun a14=>
  Nk t5 t8 h fun a15=>
  Nl t5 t8 a14 a15 h fun a16=>
  Uh t8 fun a17=>
  Ls t2 t4 t5 a17 a16)
  (Ui t2 h fun a18 a19=>
  AB0 fun a20=>
  Lu t2 t4 t5 a18 a20 a19):=
 Ce (by kernel_rfl)
theorem N7 (t1 t2 t4 t5 t23:V) (h:List V):Lr t1 t2 t4 t5 t23 h=
 SV t23 fun a7=>
  V.ite a7
  (YZ t23 fun a8=>
  Ya t1 a8 fun a9=>
  SX t5 a8 a9 h fun a10=>
  Yb t23 fun a11=>
  Lr t1 t2 t4 t5 a11 a10)
  (Yc fun a12=>
  Ls t2 t4 t5 a12 h):=
 Ce (by kernel_rfl)
theorem AEP (t0 t1:V):Cl 136 [t0,t1] []=
 YV t0 [] fun a1 a2 a3=>
  YW a3 fun a4 a5=>
  YX fun a6=>
  Lr t1 a1 a2 a4 a6 a5:=
 BD (by kernel_rfl)
def Yd (k:Rv):Rv:=
 k
def Ye (t0 t1:V) (k:V→Rv):Rv:=
 (un .neg t1).bind fun t7=>(Cl 172 (AL [] [t0,t7]) []).bind fun r=>k r.1
theorem AEQ (t0 t1:V):Cl 156 [t0,t1] []=
 Yd (Ye t0 t1 fun a1=>
  AY 0 [] a1):=
 BD (by kernel_rfl)
def Yf (k:Rv):Rv:=
 k
def Yg (t1:V) (k:V→Rv):Rv:=
 (conv P [] 3 126 t1).bind fun t7=>(AO .and t7 (V.int .u64 31)).bind fun t8=>k t8
def Yh (t0 t5:V) (k:V→Rv):Rv:=
 (AO .shl t0 t5).bind fun t11=>(AO .sub (V.int .u64 32) t5).bind fun t14=>(AO .shr t0 t14).bind fun t15=>(AO .or t11 t15).bind fun t16=>k t16
theorem AER (t0 t1:V):Cl 172 [t0,t1] []=
 Yf (Yg t1 fun a1=>
  Yh t0 a1 fun a2=>
  AY 0 [] a2):=
 BD (by kernel_rfl)
end
end Go.Proofs.YtiegkempfolgcaaGreatDoor
