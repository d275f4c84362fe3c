/-
  Part of the proof of a statement about the given program: an abstract machine over its code, the simulation, its functions' equations, what they compute.
-/
import Derived.Test.YtaghnpjlhmgioaaDoorMg4
set_option linter.unusedVariables false
set_option linter.unusedSimpArgs false
set_option linter.unusedSectionVars false
set_option maxRecDepth 100000
noncomputable section
namespace Go.Proofs.YtaghnpjlhmgioaaDoor
section
open Go AM
theorem AEe (t0:V):Cl 5 [t0] []=
 jn (fun a1=>
 V.ite a1
  ((Cl 10 (AZ [] []) []).bind fun a2=>AY 0 [] a2.1)
  ((Cl 23 (AZ [] [t0]) []).bind fun a3=>(PE a3.1 0).bind fun a4=>(ext a3.1 1).bind fun a5=>(ext a3.1 2).bind fun a6=>(Ju (Gy 23) 24 [(V.agg 23 [(V.int .i64 0),(V.lst 45 .nil [])])] (V.ref 0 [] 24) a4).bind fun a7=>(Cl 25 (AZ a7 [t0]) []).bind fun a8=>(PE a8.1 0).bind fun a9=>(ext a8.1 1).bind fun a10=>(ext a8.1 2).bind fun a11=>(Ju (Gy 23) 24 (a7++[(V.agg 23 [(V.int .i64 0),(V.lst 45 .nil [])])]) (V.ref (List.length a7) [] 24) a9).bind fun a12=>jn (fun a13=>
 AY 0 a12 a13) (fun(a14:V→Rv)=>(D7 a12 24 (V.ref 0 [] 24)).bind fun a15=>(D7 a12 24 (V.ref (List.length a7) [] 24)).bind fun a16=>(Cl 15 (AZ a12 [a15,a16]) []).bind fun a17=>V.ite a17.1 ((AL .eql a5 a10).bind fun a18=>V.ite a18 ((AL .eql a6 a11).bind fun a19=>a14 a19) (a14 (V.bool false))) (a14 (V.bool false))))) (fun(a20:V→Rv)=>(Cl 10 (AZ [] []) []).bind fun a21=>(un .not a21.1).bind fun a22=>V.ite a22 (a20 (V.bool true)) ((MW t0).bind fun a23=>(AL .gtr a23 (V.int .i64 2000)).bind fun a24=>a20 a24)):=
 Bh (by kernel_rfl)
def NJ (t1 t3 t4:V) (h:List V):Rv:=lp W 11 0 (cd 11 151) (bk 0 (sk 11 0 31 (lv 11 0))) ⟨[(1,t1),(3,t3),(4,t4)],h⟩
def RI (t1 t3 t4 t5 t6:V) (m0:Nat) (h:List V):Rv:=lp W 11 2 (cd 11 40087) (bk 2 (bk 1 (sk 11 0 919 (lk 11 0 m0 151 (bk 0 (sk 11 0 31 (lv 11 0))))))) ⟨[(1,t1),(3,t3),(4,t4),(5,t5),(6,t6)],h⟩
theorem Pn (t1 t3 t4 t5 t6:V) (m0:Nat) (h:List V):RI t1 t3 t4 t5 t6 m0 h=
 (AL .lss t6 t4).bind fun a12=>V.ite a12
  (jn (fun a13=>
 (AL .add t6 (V.int .i64 1)).bind fun a14=>RI t1 a13 t4 t5 a14 m0 h) (fun(a15:V→Rv)=>V.ite t3 (a15 (V.bool true)) ((fA 24 22 1 t1).bind fun a16=>(D7 h 22 a16).bind fun a17=>(D6 45 a17 t6).bind fun a18=>(fA 45 3 0 a18).bind fun a19=>(A8 h 3 a19).bind fun a20=>(fA 45 3 0 t5).bind fun a21=>(A8 h 3 a21).bind fun a22=>(AL .eql a20 a22).bind fun a23=>V.ite a23 ((fA 24 22 1 t1).bind fun a24=>(D7 h 22 a24).bind fun a25=>(D6 45 a25 t6).bind fun a26=>(fA 45 3 1 a26).bind fun a27=>(A8 h 3 a27).bind fun a28=>(fA 45 3 1 t5).bind fun a29=>(A8 h 3 a29).bind fun a30=>(AL .eql a28 a30).bind fun a31=>a15 a31) (a15 (V.bool false)))))
  ((AL .add t4 (V.int .i64 1)).bind fun a32=>if Ar m0 [t1,t3,a32]=true then NJ t1 t3 a32 (List.take m0 h)else none):=
 Cm (by kernel_rfl)
theorem Po (t1 t3 t4:V) (h:List V):NJ t1 t3 t4 h=
 (fA 24 22 1 t1).bind fun a2=>(D7 h 22 a2).bind fun a3=>(Jr a3).bind fun a4=>(AL .lss t4 a4).bind fun a5=>V.ite a5
  ((fA 24 22 1 t1).bind fun a6=>(D7 h 22 a6).bind fun a7=>(D6 45 a7 t4).bind fun a8=>(A8 h 45 a8).bind fun a9=>(Ju (Gy 44) 45 (h++[(V.agg 44 [(V.int .i64 0),(V.int .i64 0),(V.int .i64 0)])]) (V.ref (List.length h) [] 45) a9).bind fun a10=>jn (fun a11=>
 V.ite a11
  (AY 0 a10 (V.int .i64 50))
  (RI t1 t3 t4 (V.ref (List.length h) [] 45) (V.int .i64 0) (List.length h) a10)) (fun(a33:V→Rv)=>(fA 45 3 0 (V.ref (List.length h) [] 45)).bind fun a34=>(A8 a10 3 a34).bind fun a35=>(AL .lss a35 (V.int .i64 0)).bind fun a36=>V.ite a36 (a33 (V.bool true)) ((fA 45 3 0 (V.ref (List.length h) [] 45)).bind fun a37=>(A8 a10 3 a37).bind fun a38=>(fA 24 3 0 t1).bind fun a39=>(A8 a10 3 a39).bind fun a40=>(AL .geq a38 a40).bind fun a41=>V.ite a41 (a33 (V.bool true)) ((fA 45 3 1 (V.ref (List.length h) [] 45)).bind fun a42=>(A8 a10 3 a42).bind fun a43=>(AL .lss a43 (V.int .i64 0)).bind fun a44=>V.ite a44 (a33 (V.bool true)) ((fA 45 3 1 (V.ref (List.length h) [] 45)).bind fun a45=>(A8 a10 3 a45).bind fun a46=>(fA 24 3 0 t1).bind fun a47=>(A8 a10 3 a47).bind fun a48=>(AL .geq a46 a48).bind fun a49=>V.ite a49 (a33 (V.bool true)) ((fA 45 2 2 (V.ref (List.length h) [] 45)).bind fun a50=>(A8 a10 2 a50).bind fun a51=>(AL .lss a51 (V.int .i64 0)).bind fun a52=>V.ite a52 (a33 (V.bool true)) ((fA 45 2 2 (V.ref (List.length h) [] 45)).bind fun a53=>(A8 a10 2 a53).bind fun a54=>(AL .gtr a54 (V.int .i64 1048576)).bind fun a55=>a33 a55)))))))
  (V.ite t3
  (AY 0 h (V.int .i64 51))
  (AY 0 h (V.int .i64 0))):=
 Cm (by kernel_rfl)
theorem RJ (t0:V):Cl 11 [t0] []=
 if((Gy 23) (V.weak t0)&&V.under 0 (V.weak t0))=true then jn (fun a1=>
 V.ite a1
  (AY 0 [(V.weak t0)] (V.int .i64 50))
  (NJ (V.ref 0 [] 24) (V.bool false) (V.int .i64 0) [(V.weak t0)])) (fun(a56:V→Rv)=>(fA 24 3 0 (V.ref 0 [] 24)).bind fun a57=>(A8 [(V.weak t0)] 3 a57).bind fun a58=>(AL .lss a58 (V.int .i64 1)).bind fun a59=>V.ite a59 (a56 (V.bool true)) ((fA 24 3 0 (V.ref 0 [] 24)).bind fun a60=>(A8 [(V.weak t0)] 3 a60).bind fun a61=>(AL .gtr a61 (V.int .i64 64)).bind fun a62=>V.ite a62 (a56 (V.bool true)) ((fA 24 22 1 (V.ref 0 [] 24)).bind fun a63=>(D7 [(V.weak t0)] 22 a63).bind fun a64=>(Jr a64).bind fun a65=>(AL .gtr a65 (V.int .i64 512)).bind fun a66=>a56 a66)))else none:=
 Bh (by kernel_rfl)
theorem Zx (t0:V):Cl 12 [t0] []=
 if((Gy 23) (V.weak t0)&&V.under 0 (V.weak t0))=true then(D7 [(V.weak t0),(V.agg 23 [(V.int .i64 0),(V.lst 45 .nil [])])] 24 (V.ref 0 [] 24)).bind fun a1=>(Cl 14 (AZ [(V.weak t0),(V.agg 23 [(V.int .i64 0),(V.lst 45 .nil [])])] [a1]) []).bind fun a2=>(AL .neq a2.1 (V.int .i64 0)).bind fun a3=>V.ite a3
  (((ck [] [(V.int .i64 0),(V.lst 45 .nil [])]).map (.agg 23)).bind fun a4=>(Ju (Gy 23) 24 [(V.weak t0),(V.agg 23 [(V.int .i64 0),(V.lst 45 .nil [])])] (V.ref 1 [] 24) a4).bind fun a5=>(D7 a5 24 (V.ref 1 [] 24)).bind fun a6=>if(List.all [a2.1,a6] V.okE)=true then AY 0 a5 (V.tup [a6,a2.1])else none)
  ((fA 24 3 0 (V.ref 0 [] 24)).bind fun a7=>if Gt (V.ref 0 [] 24) a7=true then(A8 [(V.weak t0),(V.agg 23 [(V.int .i64 0),(V.lst 45 .nil [])])] 3 a7).bind fun a8=>(fA 24 22 1 (V.ref 0 [] 24)).bind fun a9=>(D7 [(V.weak t0),(V.agg 23 [(V.int .i64 0),(V.lst 45 .nil [])])] 22 a9).bind fun a10=>DL P Df W (some (V.ref 0 [] 24)) (V.clo 27 []) [a10] [(V.weak t0),(V.agg 23 [(V.int .i64 0),(V.lst 45 .nil [])])] fun a11 a12=>DL P Df W (some (V.ref 0 [] 24)) (V.clo 26 []) [a11,(V.clo 28 [])] a12 fun a13 a14=>((ck [(Va .i64) a8,(tyL 45) a13] [a8,(V.weak a13)]).map (.agg 23)).bind fun a15=>(Ju (Gy 23) 24 a14 (V.ref 1 [] 24) a15).bind fun a16=>(D7 a16 24 (V.ref 1 [] 24)).bind fun a17=>if(List.all [(V.int .i64 0),a17] V.okE)=true then AY 0 a16 (V.tup [a17,(V.int .i64 0)])else none else none)else none:=
 Bh (by kernel_rfl)
def NK (t4 t5:V) (h:List V):Rv:=lp W 14 0 (cd 14 303) (bk 0 (sk 14 0 63 (lv 14 0))) ⟨[(4,t4),(5,t5)],h⟩
theorem KZ (t4 t5:V) (h:List V):NK t4 t5 h=
 (Jr (V.weak t4)).bind fun a8=>(AL .lss t5 a8).bind fun a9=>V.ite a9
  ((AL .sub t5 (V.int .i64 1)).bind fun a10=>(D6 45 (V.weak t4) a10).bind fun a11=>(A8 h 45 a11).bind fun a12=>(D6 45 (V.weak t4) t5).bind fun a13=>(A8 h 45 a13).bind fun a14=>(Cl 28 (AZ h [a12,a14]) []).bind fun a15=>(AL .eql a15.1 (V.int .i64 0)).bind fun a16=>V.ite a16
  (AY 0 h (V.int .i64 51))
  ((AL .add t5 (V.int .i64 1)).bind fun a17=>NK t4 a17 h))
  (AY 0 h (V.int .i64 0)):=
 Cm (by kernel_rfl)
theorem NM (t0:V):Cl 14 [t0] []=
 if((Gy 23) (V.weak t0)&&V.under 0 (V.weak t0))=true then(if(List.all [(V.ref 0 [] 24)] V.capOk)=true then some (V.clo 29 [(V.ref 0 [] 24)])else none).bind fun a1=>jn (fun a2 a3=>
 V.ite a2
  (AY 0 a3 (V.int .i64 50))
  ((fA 24 22 1 (V.ref 0 [] 24)).bind fun a4=>(D7 a3 22 a4).bind fun a5=>(Cl 27 (Ac [a5]) a3).bind fun a6=>(Cl 26 (Ac [a6.1,(V.clo 28 [])]) a6.2).bind fun a7=>NK a7.1 (V.int .i64 1) a7.2)) (fun(a18:V→List V→Rv)=>(fA 24 3 0 (V.ref 0 [] 24)).bind fun a19=>(A8 [(V.weak t0)] 3 a19).bind fun a20=>(AL .lss a20 (V.int .i64 1)).bind fun a21=>V.ite a21 (a18 (V.bool true) [(V.weak t0)]) ((fA 24 3 0 (V.ref 0 [] 24)).bind fun a22=>(A8 [(V.weak t0)] 3 a22).bind fun a23=>(AL .gtr a23 (V.int .i64 64)).bind fun a24=>V.ite a24 (a18 (V.bool true) [(V.weak t0)]) ((fA 24 22 1 (V.ref 0 [] 24)).bind fun a25=>(D7 [(V.weak t0)] 22 a25).bind fun a26=>(Jr a26).bind fun a27=>(AL .gtr a27 (V.int .i64 512)).bind fun a28=>V.ite a28 (a18 (V.bool true) [(V.weak t0)]) ((fA 24 22 1 (V.ref 0 [] 24)).bind fun a29=>(D7 [(V.weak t0)] 22 a29).bind fun a30=>(Cl 30 (Ac [a30,a1]) [(V.weak t0)]).bind fun a31=>a18 a31.1 a31.2))))else none:=
 Bh (by kernel_rfl)
theorem AFA (t0 t1:V):Cl 15 [t0,t1] []=
 if((Gy 23) (V.weak t0)&&V.under 0 (V.weak t0))=true then if((Gy 23) (V.weak t1)&&V.under 1 (V.weak t1))=true then jn (fun a1=>
 AY 0 [(V.weak t0),(V.weak t1)] a1) (fun(a2:V→Rv)=>(fA 24 3 0 (V.ref 0 [] 24)).bind fun a3=>(A8 [(V.weak t0),(V.weak t1)] 3 a3).bind fun a4=>(fA 24 3 0 (V.ref 1 [] 24)).bind fun a5=>(A8 [(V.weak t0),(V.weak t1)] 3 a5).bind fun a6=>(AL .eql a4 a6).bind fun a7=>V.ite a7 ((fA 24 22 1 (V.ref 0 [] 24)).bind fun a8=>(D7 [(V.weak t0),(V.weak t1)] 22 a8).bind fun a9=>(fA 24 22 1 (V.ref 1 [] 24)).bind fun a10=>(D7 [(V.weak t0),(V.weak t1)] 22 a10).bind fun a11=>(Cl 19 (AZ [(V.weak t0),(V.weak t1)] [a9,a11]) []).bind fun a12=>a2 a12.1) (a2 (V.bool false)))else none else none:=
 Bh (by kernel_rfl)
def NP (t1 t2 t3 t4:V) (h:List V):Rv:=lp W 18 0 (cd 18 75) (bk 0 (sk 18 0 15 (lv 18 0))) ⟨[(1,t1),(2,t2),(3,t3),(4,t4)],h⟩
def NQ (t1 t2 t3 t4 t5:V) (m0:Nat) (h:List V):Rv:=lp W 18 2 (cd 18 4683) (bk 2 (bk 1 (sk 18 0 459 (lk 18 0 m0 75 (bk 0 (sk 18 0 15 (lv 18 0))))))) ⟨[(1,t1),(2,t2),(3,t3),(4,t4),(5,t5)],h⟩
def NR (t1 t2 t3 t4 t5 t6:V) (m0:Nat) (m2:Nat) (h:List V):Rv:=lp W 18 4 (cd 18 299595) (bk 4 (bk 3 (sk 18 2 29259 (lk 18 2 m2 4683 (bk 2 (bk 1 (sk 18 0 459 (lk 18 0 m0 75 (bk 0 (sk 18 0 15 (lv 18 0))))))))))) ⟨[(1,t1),(2,t2),(3,t3),(4,t4),(5,t5),(6,t6)],h⟩
theorem Ko (t1 t2 t3 t4 t5 t6:V) (m0:Nat) (m2:Nat) (h:List V):NR t1 t2 t3 t4 t5 t6 m0 m2 h=
 (fA 24 22 1 t1).bind fun a11=>(D7 h 22 a11).bind fun a12=>(Jr a12).bind fun a13=>(AL .lss t6 a13).bind fun a14=>V.ite a14
  (jn (fun a15=>
 V.ite a15
  (if(UR t3 t1&&true)=true then(fA 24 22 1 t3).bind fun a16=>if Gt t3 a16=true then(CX h 22 a16).bind fun a17=>(fA 24 22 1 t1).bind fun a18=>if Gt t1 a18=true then(D7 a17.2 22 a18).bind fun a19=>(D6 45 a19 t6).bind fun a20=>if MP true [a20]=true then(A8 a17.2 45 a20).bind fun a21=>(Zd 45 false (ck [(Gy 44) a21] [a21])).bind fun a22=>(XV 45 (Gy 44) false a17.2 a17.1 a22).bind fun a23=>(fA 24 22 1 t3).bind fun a24=>(Ju (tyL 45) 22 a17.2 a24 a23).bind fun a25=>(AL .add t6 (V.int .i64 1)).bind fun a26=>NR t1 t2 t3 t4 t5 a26 m0 m2 a25 else none else none else none else none)
  ((AL .add t6 (V.int .i64 1)).bind fun a27=>NR t1 t2 t3 t4 t5 a27 m0 m2 h)) (fun(a28:V→Rv)=>(fA 24 22 1 t1).bind fun a29=>(D7 h 22 a29).bind fun a30=>(D6 45 a30 t6).bind fun a31=>(fA 45 3 0 a31).bind fun a32=>(A8 h 3 a32).bind fun a33=>(AL .eql a33 t4).bind fun a34=>V.ite a34 ((fA 24 22 1 t1).bind fun a35=>(D7 h 22 a35).bind fun a36=>(D6 45 a36 t6).bind fun a37=>(fA 45 3 1 a37).bind fun a38=>(A8 h 3 a38).bind fun a39=>(AL .eql a39 t5).bind fun a40=>a28 a40) (a28 (V.bool false))))
  ((AL .add t5 (V.int .i64 1)).bind fun a41=>NQ t1 t2 t3 t4 a41 m0 h):=
 Cm (by kernel_rfl)
theorem Pq (t1 t2 t3 t4 t5:V) (m0:Nat) (h:List V):NQ t1 t2 t3 t4 t5 m0 h=
 (fA 24 3 0 t1).bind fun a8=>(A8 h 3 a8).bind fun a9=>(AL .lss t5 a9).bind fun a10=>V.ite a10
  (NR t1 t2 t3 t4 t5 (V.int .i64 0) m0 (List.length h) h)
  ((AL .add t4 (V.int .i64 1)).bind fun a42=>NP t1 t2 t3 a42 h):=
 Cm (by kernel_rfl)
theorem Pv (t1 t2 t3 t4:V) (h:List V):NP t1 t2 t3 t4 h=
 (fA 24 3 0 t1).bind fun a5=>(A8 h 3 a5).bind fun a6=>(AL .lss t4 a6).bind fun a7=>V.ite a7
  (NQ t1 t2 t3 t4 (V.int .i64 0) (List.length h) h)
  ((D7 h 24 t3).bind fun a43=>(Ju (Gy 23) 24 h t2 a43).bind fun a44=>(D7 a44 24 t2).bind fun a45=>AY 0 a44 a45):=
 Cm (by kernel_rfl)
theorem AFB (t0:V):Cl 18 [t0] []=
 if((Gy 23) (V.weak t0)&&V.under 0 (V.weak t0))=true then(fA 24 3 0 (V.ref 0 [] 24)).bind fun a1=>(A8 [(V.weak t0),(V.agg 23 [(V.int .i64 0),(V.lst 45 .nil [])])] 3 a1).bind fun a2=>((ck [(Va .i64) a2] [a2,(V.lst 45 .nil [])]).map (.agg 23)).bind fun a3=>(Ju (Gy 23) 24 [(V.weak t0),(V.agg 23 [(V.int .i64 0),(V.lst 45 .nil [])]),(V.agg 23 [(V.int .i64 0),(V.lst 45 .nil [])])] (V.ref 2 [] 24) a3).bind fun a4=>NP (V.ref 0 [] 24) (V.ref 1 [] 24) (V.ref 2 [] 24) (V.int .i64 0) a4 else none:=
 Bh (by kernel_rfl)
def RN (t0 t1 t5:V):Rv:=lp W 19 0 (cd 19 75) (bk 0 (sk 19 0 15 (lv 19 0))) ⟨[(0,t0),(1,t1),(5,t5)],[]⟩
theorem Px (t0 t1 t5:V):RN t0 t1 t5=
 (Jr (V.weak t0)).bind fun a4=>(AL .lss t5 a4).bind fun a5=>V.ite a5
  ((D6 45 (V.weak t0) t5).bind fun a6=>(A8 [] 45 a6).bind fun a7=>(D6 45 (V.weak t1) t5).bind fun a8=>(A8 [] 45 a8).bind fun a9=>(eqT (Gy 44) .neq a7 a9).bind fun a10=>V.ite a10
  (AY 0 [] (V.bool false))
  ((AL .add t5 (V.int .i64 1)).bind fun a11=>RN t0 t1 a11))
  (AY 0 [] (V.bool true)):=
 Cm (by kernel_rfl)
theorem AFC (t0 t1:V):Cl 19 [t0,t1] []=
 (Jr (V.weak t0)).bind fun a1=>(Jr (V.weak t1)).bind fun a2=>(AL .neq a1 a2).bind fun a3=>V.ite a3
  (AY 0 [] (V.bool false))
  (RN t0 t1 (V.int .i64 0)):=
 Bh (by kernel_rfl)
def RP (h:List V) (k:V→List V→Rv):Rv:=
 k (V.ref (List.length h) [] 24) (h++[(V.agg 23 [(V.int .i64 0),(V.lst 45 .nil [])])])
def RQ (h:List V) (k:V→List V→Rv):Rv:=
 k (V.ref (List.length h) [] 24) (h++[(V.agg 23 [(V.int .i64 0),(V.lst 45 .nil [])])])
def RS (k:V→Rv):Rv:=
 k (V.int .i64 1)
def RU (t0 t2 t5 t6:V) (h:List V):Rv:=lp W 23 0 (cd 23 75) (bk 0 (sk 23 0 15 (lv 23 0))) ⟨[(0,t0),(2,t2),(5,t5),(6,t6)],h⟩
def HY (t0 t6:V) (k:V→Rv):Rv:=
 (AL .eql t6 (V.int .i64 1)).bind fun t16=>V.ite t16 (k (V.bool true)) ((AL .neq t0 (V.str [])).bind fun t19=>k t19)
def JU (t0:V) (h:List V) (k:V→V→V→Rv):Rv:=
 (Cl 35 (AZ h [t0,(V.str [10])]) []).bind fun r=>(ext r.1 0).bind fun t26=>(ext r.1 1).bind fun t27=>(ext r.1 2).bind fun t28=>k t26 t27 t28
def JV (k:V→V→Rv):Rv:=
 k (V.str [101,100,103,101]) (V.int .i64 3)
def JW (t6:V) (k:V→Rv):Rv:=
 (AL .eql t6 (V.int .i64 1)).bind fun t30=>k t30
def JX (t7 t10 t11:V) (h:List V) (k:V→V→Rv):Rv:=
 (Cl 36 (AZ h [t7,t10,t11]) []).bind fun r=>(PE r.1 0).bind fun t36=>(ext r.1 1).bind fun t37=>k t36 t37
def GL (t9 t13:V) (k:V→Rv):Rv:=
 (un .not t9).bind fun t39=>V.ite t39 (k (V.bool true)) ((un .not t13).bind fun t42=>k t42)
def Jv (t2 t6:V) (h:List V) (k:V→V→List V→Rv):Rv:=
 ((ck [] [(V.int .i64 0),(V.lst 45 .nil [])]).map (.agg 23)).bind fun t44=>(Ju (Gy 23) 24 h t2 t44).bind fun a1=>k t6 (V.int .i64 52) a1
def RV (t6:V) (k:V→Rv):Rv:=
 (AL .eql t6 (V.int .i64 1)).bind fun t47=>k t47
def RX (t8:V) (k:V→Rv):Rv:=
 k t8
def Vk (t6:V) (k:V→Rv):Rv:=
 (AL .add t6 (V.int .i64 1)).bind fun t22=>k t22
def RY (t5 t12:V) (h:List V) (k:List V→Rv):Rv:=
 (D6 3 t12 (V.int .i64 0)).bind fun t49=>(A8 h 3 t49).bind fun t50=>(fA 24 3 0 t5).bind fun t51=>(Ju (Va .i64) 3 h t51 t50).bind fun a1=>k a1
def RZ (t5 t12:V) (h:List V) (k:List V→Rv):Rv:=
 (fA 24 22 1 t5).bind fun t52=>if Gt t5 t52=true then(CX h 22 t52).bind fun r=>(D6 3 (V.weak t12) (V.int .i64 0)).bind fun t55=>if MP true [t55]=true then(A8 r.2 3 t55).bind fun t56=>(D6 3 (V.weak t12) (V.int .i64 1)).bind fun t58=>if MP true [t58]=true then(A8 r.2 3 t58).bind fun t59=>(D6 3 (V.weak t12) (V.int .i64 2)).bind fun t61=>if MP true [t61]=true then(A8 r.2 3 t61).bind fun t62=>((ck [(Va .i64) t56,(Va .i64) t59,(Va .i64) t62] [t56,t59,t62]).map (.agg 44)).bind fun t63=>(Zd 45 false (ck [(Gy 44) t63] [t63])).bind fun t64=>(XV 45 (Gy 44) false r.2 r.1 t64).bind fun t65=>(fA 24 22 1 t5).bind fun t66=>(Ju (tyL 45) 22 r.2 t66 t65).bind fun a1=>k a1 else none else none else none else none
def JY (k:V→V→Rv):Rv:=
 k (V.str [103,114,97,112,104]) (V.int .i64 1)
def XY (t5:V) (h:List V) (k:V→List V→Rv):Rv:=
 (D7 h 24 t5).bind fun t69=>(Cl 12 (AZ h [t69]) []).bind fun r=>(PE r.1 0).bind fun t71=>(ext r.1 1).bind fun t72=>(Ju (Gy 23) 24 h t5 t71).bind fun a1=>k t72 a1
def XZ (t2 t5 t14:V) (h:List V) (k:V→V→List V→Rv):Rv:=
 (D7 h 24 t5).bind fun t73=>(Ju (Gy 23) 24 h t2 t73).bind fun a1=>k (V.int .i64 0) t14 a1
theorem EF (t0 t2 t5 t6:V) (h:List V):RU t0 t2 t5 t6 h=
 HY t0 t6 fun a6=>
  V.ite a6
  (JU t0 h fun a7 a8 a9=>
  JV fun a10 a11=>
  JW t6 fun a12=>
  jn (fun a13 a14=>JX a7 a13 a14 h fun a15 a16=>
  GL a9 a16 fun a17=>
  V.ite a17
  (Jv t2 t6 h fun a18 a19 a20=>
  (D7 a20 24 t2).bind fun a21=>if(List.all [a19,a18,a21] V.okE)=true then AY 0 a20 (V.tup [a21,a18,a19])else none)
  (RV t6 fun a22=>
  jn (fun a23=>RX a8 fun a24=>
  Vk t6 fun a25=>
  RU a24 t2 t5 a25 a23)
  (fun(j1:List V→Rv)=>V.ite a22
  (RY t5 a15 h fun a26=>
  j1 a26)
  (RZ t5 a15 h fun a27=>
  j1 a27))))
  (fun(j0:V→V→Rv)=>V.ite a12
  (JY fun a28 a29=>
  j0 a28 a29)
  (j0 a10 a11)))
  (XY t5 h fun a30 a31=>
  XZ t2 t5 a30 a31 fun a32 a33 a34=>
  (D7 a34 24 t2).bind fun a35=>if(List.all [a33,a32,a35] V.okE)=true then AY 0 a34 (V.tup [a35,a32,a33])else none):=
 Cm (Aj<|Aj<|Az (fun K u20=>K ⟨[(0,t0),(2,t2),(5,t5),(6,t6),(20,u20)],h⟩) (funext fun a6=>Ae<|Bg (DC<|Ae<|Aj<|MV<|Aj<|Az (fun K u7 u8 u9=>K ⟨[(2,t2),(5,t5),(6,t6),(7,u7),(8,u8),(9,u9)],h⟩) (funext fun a7=>funext fun a8=>funext fun a9=>Ae<|Aj<|Az (fun K u10 u11=>K ⟨[(2,t2),(5,t5),(6,t6),(7,a7),(8,a8),(9,a9),(10,u10),(11,u11)],h⟩) (funext fun a10=>funext fun a11=>Ae<|Aj<|Aj<|Az (fun K u30=>K ⟨[(2,t2),(5,t5),(6,t6),(7,a7),(8,a8),(9,a9),(10,a10),(11,a11),(30,u30)],h⟩) (funext fun a12=>Ae<|KY (fun K a13 a14=>K ⟨[(2,t2),(5,t5),(6,t6),(7,a7),(8,a8),(9,a9),(10,a13),(11,a14)],h⟩) (funext fun a13=>funext fun a14=>Ae<|Aj<|Az (fun K u12 u13=>K ⟨[(2,t2),(5,t5),(6,t6),(8,a8),(9,a9),(12,u12),(13,u13)],h⟩) (funext fun a15=>funext fun a16=>Ae<|Aj<|Aj<|Az (fun K u43=>K ⟨[(2,t2),(5,t5),(6,t6),(8,a8),(12,a15),(43,u43)],h⟩) (funext fun a17=>Ae<|Bg (by kernel_rfl) (DC<|Ae<|Aj<|Aj<|Az (fun K u47=>K ⟨[(2,t2),(5,t5),(6,t6),(8,a8),(12,a15),(47,u47)],h⟩) (funext fun a22=>Ae<|KY (fun K a23=>K ⟨[(2,t2),(5,t5),(6,t6),(8,a8)],a23⟩) (funext fun a23=>by kernel_rfl) (Bg (Az (fun K h'=>K ⟨[(2,t2),(5,t5),(6,t6),(8,a8)],h'⟩) (funext fun a26=>rfl)) (Az (fun K h'=>K ⟨[(2,t2),(5,t5),(6,t6),(8,a8)],h'⟩) (funext fun a27=>rfl)))))))) (Bg (Az (fun K u10 u11=>K ⟨[(2,t2),(5,t5),(6,t6),(7,a7),(8,a8),(9,a9),(10,u10),(11,u11)],h⟩) (funext fun a28=>funext fun a29=>rfl)) (DC<|PI)))))) (by kernel_rfl)))
theorem Vl (t0:V):Cl 23 [t0] []=
 RP [] fun a1 a2=>
  RQ a2 fun a3 a4=>
  RS fun a5=>
  RU t0 a1 a3 a5 a4:=
 Bh (by kernel_rfl)
def GN (t0 t2 t5 t6 t7:V) (h:List V):Rv:=lp W 25 0 (cd 25 151) (bk 0 (sk 25 0 31 (lv 25 0))) ⟨[(0,t0),(2,t2),(5,t5),(6,t6),(7,t7)],h⟩
def GR (t0 t2 t5 t6 t7 t8:V) (m0:Nat) (h:List V):Rv:=lp W 25 2 (cd 25 17559) (bk 2 (sk 25 1 7319 (bk 1 (sk 25 0 919 (lk 25 0 m0 151 (bk 0 (sk 25 0 31 (lv 25 0)))))))) ⟨[(0,t0),(2,t2),(5,t5),(6,t6),(7,t7),(8,t8)],h⟩
def Fa (t0 t2 t5 t6 t7 t9 t10 t11:V) (m0:Nat) (h:List V):Rv:=lp W 25 4 (cd 25 1244311) (bk 4 (sk 25 1 261271 (bk 1 (sk 25 0 919 (lk 25 0 m0 151 (bk 0 (sk 25 0 31 (lv 25 0)))))))) ⟨[(0,t0),(2,t2),(5,t5),(6,t6),(7,t7),(9,t9),(10,t10),(11,t11)],h⟩
theorem Dk (t0 t2 t5 t6 t7 t9 t10 t11:V) (m0:Nat) (h:List V):Fa t0 t2 t5 t6 t7 t9 t10 t11 m0 h=
 (Jr (V.weak t9)).bind fun a15=>(AL .lss t11 a15).bind fun a16=>V.ite a16
  ((D6 9 (V.weak t9) t11).bind fun a17=>(A8 h 9 a17).bind fun a18=>(Cl 39 (AZ h [a18,(V.int .i64 9)]) []).bind fun a19=>(AL .lss a19.1 (V.int .i64 0)).bind fun a20=>V.ite a20
  (((ck [] [(V.int .i64 0),(V.lst 45 .nil [])]).map (.agg 23)).bind fun a21=>(Ju (Gy 23) 24 h t2 a21).bind fun a22=>(D7 a22 24 t2).bind fun a23=>if(List.all [(V.int .i64 52),t7,a23] V.okE)=true then AY 0 a22 (V.tup [a23,t7,(V.int .i64 52)])else none)
  ((Zd 3 false (ck [(Va .i64) a19.1] [a19.1])).bind fun a24=>(XV 3 (Va .i64) false h t10 a24).bind fun a25=>(AL .add t11 (V.int .i64 1)).bind fun a26=>Fa t0 t2 t5 t6 t7 t9 a25 a26 m0 h))
  (jn (fun a27=>
 V.ite a27
  ((D6 3 t10 (V.int .i64 0)).bind fun a28=>(A8 h 3 a28).bind fun a29=>(fA 24 3 0 t5).bind fun a30=>(Ju (Va .i64) 3 h a30 a29).bind fun a31=>(AL .add t7 (V.int .i64 1)).bind fun a32=>GN t0 t2 t5 t6 a32 a31)
  (jn (fun a33=>
 V.ite a33
  ((fA 24 22 1 t5).bind fun a34=>if Gt t5 a34=true then(CX h 22 a34).bind fun a35=>(D6 3 (V.weak t10) (V.int .i64 0)).bind fun a36=>if MP true [a36]=true then(A8 a35.2 3 a36).bind fun a37=>(D6 3 (V.weak t10) (V.int .i64 1)).bind fun a38=>if MP true [a38]=true then(A8 a35.2 3 a38).bind fun a39=>(D6 3 (V.weak t10) (V.int .i64 2)).bind fun a40=>if MP true [a40]=true then(A8 a35.2 3 a40).bind fun a41=>((ck [(Va .i64) a37,(Va .i64) a39,(Va .i64) a41] [a37,a39,a41]).map (.agg 44)).bind fun a42=>(Zd 45 false (ck [(Gy 44) a42] [a42])).bind fun a43=>(XV 45 (Gy 44) false a35.2 a35.1 a43).bind fun a44=>(fA 24 22 1 t5).bind fun a45=>(Ju (tyL 45) 22 a35.2 a45 a44).bind fun a46=>(AL .add t7 (V.int .i64 1)).bind fun a47=>GN t0 t2 t5 t6 a47 a46 else none else none else none else none)
  (((ck [] [(V.int .i64 0),(V.lst 45 .nil [])]).map (.agg 23)).bind fun a48=>(Ju (Gy 23) 24 h t2 a48).bind fun a49=>(D7 a49 24 t2).bind fun a50=>if(List.all [(V.int .i64 52),t7,a50] V.okE)=true then AY 0 a49 (V.tup [a50,t7,(V.int .i64 52)])else none)) (fun(a51:V→Rv)=>(AL .gtr t7 (V.int .i64 1)).bind fun a52=>V.ite a52 ((D6 9 t9 (V.int .i64 0)).bind fun a53=>(A8 h 9 a53).bind fun a54=>(AL .eql a54 (V.str [101,100,103,101])).bind fun a55=>V.ite a55 ((Jr (V.weak t10)).bind fun a56=>(AL .eql a56 (V.int .i64 3)).bind fun a57=>a51 a57) (a51 (V.bool false))) (a51 (V.bool false))))) (fun(a58:V→Rv)=>(AL .eql t7 (V.int .i64 1)).bind fun a59=>V.ite a59 ((D6 9 (V.weak t9) (V.int .i64 0)).bind fun a60=>(A8 h 9 a60).bind fun a61=>(AL .eql a61 (V.str [103,114,97,112,104])).bind fun a62=>V.ite a62 ((Jr (V.weak t10)).bind fun a63=>(AL .eql a63 (V.int .i64 1)).bind fun a64=>a58 a64) (a58 (V.bool false))) (a58 (V.bool false)))):=
 Cm (by kernel_rfl)
theorem Kq (t0 t2 t5 t6 t7 t8:V) (m0:Nat) (h:List V):GR t0 t2 t5 t6 t7 t8 m0 h=
 jn (fun a4=>
 V.ite a4
  ((AL .add t8 (V.int .i64 1)).bind fun a5=>GR t0 t2 t5 t6 t7 a5 m0 h)
  ((MW t0).bind fun a6=>(AL .eql t8 a6).bind fun a7=>V.ite a7
  (((ck [] [(V.int .i64 0),(V.lst 45 .nil [])]).map (.agg 23)).bind fun a8=>(Ju (Gy 23) 24 h t2 a8).bind fun a9=>(D7 a9 24 t2).bind fun a10=>if(List.all [(V.int .i64 52),t7,a10] V.okE)=true then AY 0 a9 (V.tup [a10,t7,(V.int .i64 52)])else none)
  ((UO t0 (some t6) (some t8)).bind fun a11=>(Cl 38 (AZ h [a11]) []).bind fun a12=>(AL .add t8 (V.int .i64 1)).bind fun a13=>(Zd 3 false (ck [] [])).bind fun a14=>Fa t0 t2 t5 a13 t7 a12.1 a14 (V.int .i64 1) m0 h))) (fun(a65:V→Rv)=>(MW t0).bind fun a66=>(AL .lss t8 a66).bind fun a67=>V.ite a67 ((Pm t0 t8).bind fun a68=>(AL .neq a68 (V.int .u8 10)).bind fun a69=>a65 a69) (a65 (V.bool false))):=
 Cm (by kernel_rfl)
theorem Fq (t0 t2 t5 t6 t7:V) (h:List V):GN t0 t2 t5 t6 t7 h=
 jn (fun a3=>
 V.ite a3
  (GR t0 t2 t5 t6 t7 t6 (List.length h) h)
  ((D7 h 24 t5).bind fun a70=>(Cl 11 (AZ h [a70]) []).bind fun a71=>(AL .neq a71.1 (V.int .i64 0)).bind fun a72=>V.ite a72
  (((ck [] [(V.int .i64 0),(V.lst 45 .nil [])]).map (.agg 23)).bind fun a73=>(Ju (Gy 23) 24 h t2 a73).bind fun a74=>(D7 a74 24 t2).bind fun a75=>if(List.all [a71.1,(V.int .i64 0),a75] V.okE)=true then AY 0 a74 (V.tup [a75,(V.int .i64 0),a71.1])else none)
  ((D7 h 24 t5).bind fun a76=>(Cl 18 (AZ h [a76]) []).bind fun a77=>(Ju (Gy 23) 24 h t2 a77.1).bind fun a78=>(D7 a78 24 t2).bind fun a79=>if(List.all [(V.int .i64 0),(V.int .i64 0),a79] V.okE)=true then AY 0 a78 (V.tup [a79,(V.int .i64 0),(V.int .i64 0)])else none))) (fun(a80:V→Rv)=>(AL .eql t7 (V.int .i64 1)).bind fun a81=>V.ite a81 (a80 (V.bool true)) ((MW t0).bind fun a82=>(AL .lss t6 a82).bind fun a83=>a80 a83)):=
 Cm (by kernel_rfl)
theorem AFD (t0:V):Cl 25 [t0] []=
 ((ck [] [(V.int .i64 0),(V.lst 45 .nil [])]).map (.agg 23)).bind fun a1=>(Ju (Gy 23) 24 [(V.agg 23 [(V.int .i64 0),(V.lst 45 .nil [])]),(V.agg 23 [(V.int .i64 0),(V.lst 45 .nil [])])] (V.ref 1 [] 24) a1).bind fun a2=>GN t0 (V.ref 0 [] 24) (V.ref 1 [] 24) (V.int .i64 0) (V.int .i64 1) a2:=
 Bh (by kernel_rfl)
theorem Zy (t0 t1:V) (h:List V):Cl 26 [t0,t1] h=
 (Cl 40 (Ac [t0]) h).bind fun a1=>(Cl 41 (Ac [(V.weak a1.1),t1]) a1.2).bind fun a2=>AY (List.length h) a2.2 a1.1:=
 Bh (by kernel_rfl)
theorem Zz (t0:V) (h:List V):Cl 27 [t0] h=
 if((tyL 45) (V.weak t0)&&V.under (List.length h) (V.weak t0))=true then(if(List.all [(V.ref (List.length h) [] 22)] V.capOk)=true then some (V.clo 42 [(V.ref (List.length h) [] 22)])else none).bind fun a1=>Zm (h++[(V.weak t0)]) a1 else none:=
 Bh (by kernel_rfl)
theorem AFE (t0 t1:V):Cl 28 [t0,t1] []=
 if((Gy 44) t0&&V.under 0 t0)=true then if((Gy 44) t1&&V.under 1 t1)=true then(fA 45 3 0 (V.ref 0 [] 45)).bind fun a1=>(A8 [t0,t1] 3 a1).bind fun a2=>(fA 45 3 0 (V.ref 1 [] 45)).bind fun a3=>(A8 [t0,t1] 3 a3).bind fun a4=>(AL .neq a2 a4).bind fun a5=>V.ite a5
  ((fA 45 3 0 (V.ref 0 [] 45)).bind fun a6=>(A8 [t0,t1] 3 a6).bind fun a7=>(fA 45 3 0 (V.ref 1 [] 45)).bind fun a8=>(A8 [t0,t1] 3 a8).bind fun a9=>(AL .sub a7 a9).bind fun a10=>AY 0 [t0,t1] a10)
  ((fA 45 3 1 (V.ref 0 [] 45)).bind fun a11=>(A8 [t0,t1] 3 a11).bind fun a12=>(fA 45 3 1 (V.ref 1 [] 45)).bind fun a13=>(A8 [t0,t1] 3 a13).bind fun a14=>(AL .sub a12 a14).bind fun a15=>AY 0 [t0,t1] a15)else none else none:=
 Bh (by kernel_rfl)
theorem AFF (t0 t1:V) (h:List V):Cl 29 [t0,t1] h=
 if((Gy 44) t0&&V.under (List.length h) t0)=true then jn (fun a1=>
 AY (List.length h) (h++[t0]) a1) (fun(a2:V→Rv)=>(fA 45 3 0 (V.ref (List.length h) [] 45)).bind fun a3=>(A8 (h++[t0]) 3 a3).bind fun a4=>(AL .lss a4 (V.int .i64 0)).bind fun a5=>V.ite a5 (a2 (V.bool true)) ((fA 45 3 0 (V.ref (List.length h) [] 45)).bind fun a6=>(A8 (h++[t0]) 3 a6).bind fun a7=>(fA 24 3 0 t1).bind fun a8=>(A8 (h++[t0]) 3 a8).bind fun a9=>(AL .geq a7 a9).bind fun a10=>V.ite a10 (a2 (V.bool true)) ((fA 45 3 1 (V.ref (List.length h) [] 45)).bind fun a11=>(A8 (h++[t0]) 3 a11).bind fun a12=>(AL .lss a12 (V.int .i64 0)).bind fun a13=>V.ite a13 (a2 (V.bool true)) ((fA 45 3 1 (V.ref (List.length h) [] 45)).bind fun a14=>(A8 (h++[t0]) 3 a14).bind fun a15=>(fA 24 3 0 t1).bind fun a16=>(A8 (h++[t0]) 3 a16).bind fun a17=>(AL .geq a15 a17).bind fun a18=>V.ite a18 (a2 (V.bool true)) ((fA 45 2 2 (V.ref (List.length h) [] 45)).bind fun a19=>(A8 (h++[t0]) 2 a19).bind fun a20=>(AL .lss a20 (V.int .i64 0)).bind fun a21=>V.ite a21 (a2 (V.bool true)) ((fA 45 2 2 (V.ref (List.length h) [] 45)).bind fun a22=>(A8 (h++[t0]) 2 a22).bind fun a23=>(AL .gtr a23 (V.int .i64 1048576)).bind fun a24=>a2 a24))))))else none:=
 Bh (by kernel_rfl)
theorem AFG (t0 t1:V) (h:List V):Cl 30 [t0,t1] h=
 (Cl 43 (Ac [t0,t1]) h).bind fun a1=>(AL .geq a1.1 (V.int .i64 0)).bind fun a2=>AY (List.length h) a1.2 a2:=
 Bh (by kernel_rfl)
def Rf (t0 t7 t8 t9:V) (h:List V):Rv:=lp W 34 0 (cd 34 37) (bk 0 (sk 34 0 7 (lv 34 0))) ⟨[(0,t0),(7,t7),(8,t8),(9,t9)],h⟩
theorem Py (t0 t7 t8 t9:V) (h:List V):Rf t0 t7 t8 t9 h=
 (AL .lss t9 t8).bind fun a2=>V.ite a2
  ((D6 3 t7 t9).bind fun a3=>(A8 h 3 a3).bind fun a4=>(XQ 2 0 [a4] h).bind fun a5=>(AL .add (V.str [32]) a5.1).bind fun a6=>(AL .add t0 a6).bind fun a7=>(AL .add t9 (V.int .i64 1)).bind fun a8=>Rf a7 t7 t8 a8 a5.2)
  ((AL .add t0 (V.str [10])).bind fun a9=>AY 0 h a9):=
 Cm (by kernel_rfl)
theorem AFH (t0 t1:V):Cl 34 [t0,t1] []=
 (Jr t1).bind fun a1=>Rf t0 t1 a1 (V.int .i64 0) []:=
 Bh (by kernel_rfl)
theorem Z4 (t0 t1:V):Cl 35 [t0,t1] []=
 (Cl 45 (AZ [] [t0,t1]) []).bind fun a1=>(ext a1.1 0).bind fun a2=>(ext a1.1 1).bind fun a3=>(ext a1.1 2).bind fun a4=>if(List.all [a4,a3,a2] V.okE)=true then AY 0 [] (V.tup [a2,a3,a4])else none:=
 Bh (by kernel_rfl)
def Rh (t0 t1 t9 t23 t24 t25:V) (h:List V):Rv:=lp W 36 0 (cd 36 303) (bk 0 (sk 36 0 63 (lv 36 0))) ⟨[(0,t0),(1,t1),(9,t9),(23,t23),(24,t24),(25,t25)],h⟩
theorem IU (t0 t1 t9 t23 t24 t25:V) (h:List V):Rh t0 t1 t9 t23 t24 t25 h=
 (AL .lss t25 t24).bind fun a8=>V.ite a8
  ((D6 9 t23 t25).bind fun a9=>(A8 h 9 a9).bind fun a10=>(XQ 1 0 [a10] h).bind fun a11=>(ext a11.1 0).bind fun a12=>(ext a11.1 1).bind fun a13=>jn (fun a14=>
 V.ite a14
  (if(List.all [(V.bool false),(V.weak (V.lst 3 .nil []))] V.okE)=true then AY 0 a11.2 (V.tup [(V.weak (V.lst 3 .nil [])),(V.bool false)])else none)
  ((Zd 3 false (ck [(Va .i64) a12] [a12])).bind fun a15=>(XV 3 (Va .i64) false a11.2 t9 a15).bind fun a16=>(AL .add t25 (V.int .i64 1)).bind fun a17=>if Ar (List.length h) [t0,t1,a16,t23,t24,a17]=true then Rh t0 t1 a16 t23 t24 a17 (List.take (List.length h) a11.2)else none)) (fun(a18:V→Rv)=>(YR .neq a13).bind fun a19=>V.ite a19 (a18 (V.bool true)) ((MW a10).bind fun a20=>(AL .gtr a20 (V.int .i64 9)).bind fun a21=>a18 a21)))
  (jn (fun a22 a23=>
 if(List.all [a23,a22] V.okE)=true then AY 0 h (V.tup [a22,a23])else none) (fun(a24:V→V→Rv)=>(Cl 34 (AZ h [t1,(V.weak t9)]) []).bind fun a25=>(AL .add t0 (V.str [10])).bind fun a26=>(AL .eql a25.1 a26).bind fun a27=>V.ite a27 ((Cl 48 (AZ h [t9]) []).bind fun a28=>(AL .geq a28.1 (V.int .i64 0)).bind fun a29=>a24 (V.weak t9) a29) (a24 (V.weak t9) (V.bool false)))):=
 Cm (by kernel_rfl)
theorem Z5 (t0 t1 t2:V):Cl 36 [t0,t1,t2] []=
 (Cl 46 (AZ [] [t0,(V.str [32])]) []).bind fun a1=>(Jr (V.weak a1.1)).bind fun a2=>(AL .add (V.int .i64 1) t2).bind fun a3=>(AL .neq a2 a3).bind fun a4=>V.ite a4
  (if(List.all [(V.bool false),(V.weak (V.lst 3 .nil []))] V.okE)=true then AY 0 [] (V.tup [(V.weak (V.lst 3 .nil [])),(V.bool false)])else none)
  ((Zd 3 false (ck [] [])).bind fun a5=>(Zc 9 a1.1 (some (V.int .i64 1)) none none).bind fun a6=>(Jr a6).bind fun a7=>Rh t0 t1 a5 a6 a7 (V.int .i64 0) []):=
 Bh (by kernel_rfl)
def NS (t0 t3 t4 t5:V):Rv:=lp W 38 0 (cd 38 75) (bk 0 (sk 38 0 15 (lv 38 0))) ⟨[(0,t0),(3,t3),(4,t4),(5,t5)],[]⟩
theorem Kr (t0 t3 t4 t5:V):NS t0 t3 t4 t5=
 (MW t0).bind fun a2=>(AL .lss t5 a2).bind fun a3=>V.ite a3
  ((Pm t0 t5).bind fun a4=>(AL .eql a4 (V.int .u8 32)).bind fun a5=>V.ite a5
  ((Zd 9 false (ck [tyS t4] [t4])).bind fun a6=>(XV 9 tyS false [] t3 a6).bind fun a7=>(AL .add t5 (V.int .i64 1)).bind fun a8=>NS t0 a7 (V.str []) a8)
  ((AL .add t5 (V.int .i64 1)).bind fun a9=>(UO t0 (some t5) (some a9)).bind fun a10=>(AL .add t4 a10).bind fun a11=>(AL .add t5 (V.int .i64 1)).bind fun a12=>NS t0 t3 a11 a12))
  ((Zd 9 false (ck [tyS t4] [t4])).bind fun a13=>(XV 9 tyS false [] t3 a13).bind fun a14=>AY 0 [] a14):=
 Cm (by kernel_rfl)
theorem AFI (t0:V):Cl 38 [t0] []=
 (Zd 9 false (ck [] [])).bind fun a1=>NS t0 a1 (V.str []) (V.int .i64 0):=
 Bh (by kernel_rfl)
def Ri (t0 t5 t6:V):Rv:=lp W 39 0 (cd 39 151) (bk 0 (sk 39 0 31 (lv 39 0))) ⟨[(0,t0),(5,t5),(6,t6)],[]⟩
theorem Ku (t0 t5 t6:V):Ri t0 t5 t6=
 (MW t0).bind fun a2=>(AL .lss t6 a2).bind fun a3=>V.ite a3
  (jn (fun a4=>
 V.ite a4
  (AY 0 [] (V.int .i64 (-1)))
  ((AL .mul (V.int .i64 10) t5).bind fun a5=>(Pm t0 t6).bind fun a6=>(AL .sub a6 (V.int .u8 48)).bind fun a7=>(cvI .i64 a7).bind fun a8=>(AL .add a5 a8).bind fun a9=>(AL .add t6 (V.int .i64 1)).bind fun a10=>Ri t0 a9 a10)) (fun(a11:V→Rv)=>(Pm t0 t6).bind fun a12=>(AL .lss a12 (V.int .u8 48)).bind fun a13=>V.ite a13 (a11 (V.bool true)) ((Pm t0 t6).bind fun a14=>(AL .gtr a14 (V.int .u8 57)).bind fun a15=>a11 a15)))
  (AY 0 [] t5):=
 Cm (by kernel_rfl)
theorem NT (t0 t1:V):Cl 39 [t0,t1] []=
 jn (fun a1=>
 V.ite a1
  (AY 0 [] (V.int .i64 (-1)))
  (Ri t0 (V.int .i64 0) (V.int .i64 0))) (fun(a16:V→Rv)=>(AL .eql t0 (V.str [])).bind fun a17=>V.ite a17 (a16 (V.bool true)) ((MW t0).bind fun a18=>(AL .gtr a18 t1).bind fun a19=>V.ite a19 (a16 (V.bool true)) ((MW t0).bind fun a20=>(AL .gtr a20 (V.int .i64 1)).bind fun a21=>V.ite a21 ((Pm t0 (V.int .i64 0)).bind fun a22=>(AL .eql a22 (V.int .u8 48)).bind fun a23=>a16 a23) (a16 (V.bool false))))):=
 Bh (by kernel_rfl)
theorem Z7 (t0:V) (h:List V):Cl 40 [t0] h=
 (XQ 42 45 [(V.lst 45 .nil []),t0] h).bind fun a1=>Zm a1.2 a1.1:=
 Bh (by kernel_rfl)
def Z8 (t0:V) (k:V→Rv):Rv:=
 (Vf P 22 (V.weak t0)).bind fun t6=>k t6
def Z9 (t0 t1 t4:V) (h:List V) (k:List V→Rv):Rv:=
 (conv P h 3 77 t4).bind fun t10=>(Cl 51 (AZ h [t10]) []).bind fun r=>(Cl 50 (Ac [t0,(V.int .i64 0),t4,r.1,t1]) h).bind fun a1=>k a1.2
theorem AFJ (t0 t1:V) (h:List V):Cl 41 [t0,t1] h=
 Z8 t0 fun a1=>
  Z9 t0 t1 a1 h fun a2=>
  if(List.all [] V.okE)=true then AY (List.length h) a2 (V.tup [])else none:=
 Bh (by kernel_rfl)
def Rj (t0 t1 t7 t8:V) (n:Nat) (h:List V):Rv:=lp W 43 0 (cd 43 37) (bk 0 (sk 43 0 7 (lv 43 n))) ⟨[(0,t0),(1,t1),(7,t7),(8,t8)],h⟩
theorem Pz (t0 t1 t7 t8:V) (n:Nat) (h:List V):Rj t0 t1 t7 t8 n h=
 (AL .lss t8 t7).bind fun a2=>V.ite a2
  ((D6 45 (V.weak t0) t8).bind fun a3=>(A8 h 45 a3).bind fun a4=>BQ P Df W t1 [a4] h fun a5 a6=>if V.noOwn a5=true then V.ite a5
  (AY n a6 t8)
  ((AL .add t8 (V.int .i64 1)).bind fun a7=>Rj t0 t1 t7 a7 n a6)else none)
  (AY n h (V.int .i64 (-1))):=
 Cm (by kernel_rfl)
theorem AFK (t0 t1:V) (h:List V):Cl 43 [t0,t1] h=
 (Jr (V.weak t0)).bind fun a1=>Rj t0 t1 a1 (V.int .i64 0) (List.length h) h:=
 Bh (by kernel_rfl)
theorem AAA (t0 t1:V):Cl 45 [t0,t1] []=
 (Cl 53 (AZ [] [t0,t1]) []).bind fun a1=>(AL .geq a1.1 (V.int .i64 0)).bind fun a2=>V.ite a2
  ((UO t0 none (some a1.1)).bind fun a3=>(MW t1).bind fun a4=>(AL .add a1.1 a4).bind fun a5=>(UO t0 (some a5) none).bind fun a6=>if(List.all [(V.bool true),a6,a3] V.okE)=true then AY 0 [] (V.tup [a3,a6,(V.bool true)])else none)
  (if(List.all [(V.bool false),(V.str []),t0] V.okE)=true then AY 0 [] (V.tup [t0,(V.str []),(V.bool false)])else none):=
 Bh (by kernel_rfl)
theorem AFL (t0 t1:V):Cl 46 [t0,t1] []=
 (Cl 54 (AZ [] [t0,t1,(V.int .i64 0),(V.int .i64 (-1))]) []).bind fun a1=>AY 0 [] a1.1:=
 Bh (by kernel_rfl)
def Rk (t0 t3 t4:V):Rv:=lp W 48 0 (cd 48 151) (bk 0 (sk 48 0 31 (lv 48 0))) ⟨[(0,t0),(3,t3),(4,t4)],[]⟩
theorem P5 (t0 t3 t4:V):Rk t0 t3 t4=
 (Jr (V.weak t0)).bind fun a5=>(AL .lss t4 a5).bind fun a6=>V.ite a6
  ((D6 3 (V.weak t0) t4).bind fun a7=>(A8 [] 3 a7).bind fun a8=>(PD t3 a8).bind fun a9=>(AL .add t4 (V.int .i64 1)).bind fun a10=>Rk t0 a9 a10)
  (AY 0 [] t3):=
 Cm (by kernel_rfl)
theorem AFM (t0:V):Cl 48 [t0] []=
 (Jr (V.weak t0)).bind fun a1=>(AL .lss a1 (V.int .i64 1)).bind fun a2=>V.ite a2
  (none)
  ((D6 3 (V.weak t0) (V.int .i64 0)).bind fun a3=>(A8 [] 3 a3).bind fun a4=>Rk t0 a4 (V.int .i64 1)):=
 Bh (by kernel_rfl)
def AAB (k:V→Rv):Rv:=
 k (V.bool true)
def AAC (k:V→Rv):Rv:=
 k (V.bool true)
def DF (t0 t1 t2 t3 t4 t10 t11:V) (n:Nat) (h:List V):Rv:=lp W 50 0 (cd 50 19) (bk 0 (lv 50 n)) ⟨[(0,t0),(1,t1),(2,t2),(3,t3),(4,t4),(10,t10),(11,t11)],h⟩
def Rl (t1 t2:V) (k:V→Rv):Rv:=
 (AL .sub t2 t1).bind fun t23=>k t23
def Rn (t12:V) (k:V→Rv):Rv:=
 (AL .leq t12 (V.int .i64 12)).bind fun t25=>k t25
def AAD (t0 t1 t2 t4:V) (h:List V) (k:List V→Rv):Rv:=
 (Cl 57 (Ac [t0,t1,t2,t4]) h).bind fun r=>k r.2
def Vm (t3:V) (k:V→Rv):Rv:=
 (AL .eql t3 (V.int .i64 0)).bind fun t32=>k t32
def AAE (t0 t1 t2 t4:V) (h:List V) (k:List V→Rv):Rv:=
 (Cl 58 (Ac [t0,t1,t2,t4]) h).bind fun r=>k r.2
def AAF (t10:V) (k:V→Rv):Rv:=
 (un .not t10).bind fun t39=>k t39
def Ro (t0 t1 t2 t4:V) (h:List V) (k:V→V→List V→Rv):Rv:=
 (Cl 60 (Ac [(V.weak t0),t1,t2,t4]) h).bind fun r=>(ext r.1 0).bind fun t53=>(ext r.1 1).bind fun t54=>k t53 t54 r.2
def Rq (t14:V) (k:V→Rv):Rv:=
 (AL .eql t14 (V.int .i64 2)).bind fun t56=>k t56
def MX (t10 t11 t14:V) (k:V→Rv):Rv:=
 V.ite t10 (V.ite t11 ((AL .eql t14 (V.int .i64 1)).bind fun t74=>k t74) (k (V.bool false))) (k (V.bool false))
def GU (t0 t1 t4 t13:V) (h:List V) (k:V→List V→Rv):Rv:=
 (AL .gtr t1 (V.int .i64 0)).bind fun t82=>V.ite t82 ((AL .sub t1 (V.int .i64 1)).bind fun t87=>(AP P 22 (V.weak t0) t87).bind fun t88=>(A8 h 45 t88).bind fun t89=>(AP P 22 (V.weak t0) t13).bind fun t92=>(A8 h 45 t92).bind fun t93=>BQ P Df W t4 [t89,t93] h fun t94 a1=>if V.noOwn t94=true then(AL .lss t94 (V.int .i64 0)).bind fun t95=>(un .not t95).bind fun t96=>k t96 a1 else none) (k (V.bool false) h)
def IV (t0 t1 t2 t4 t13:V) (h:List V) (k:V→List V→Rv):Rv:=
 (Cl 63 (Ac [(V.weak t0),t1,t2,t13,t4]) h).bind fun r=>k r.1 r.2
def IW (t15:V) (k:V→Rv):Rv:=
 k t15
def GV (t0 t1 t2 t4 t13:V) (h:List V) (k:V→V→List V→Rv):Rv:=
 (Cl 64 (Ac [(V.weak t0),t1,t2,t13,t4]) h).bind fun r=>(ext r.1 0).bind fun t112=>(ext r.1 1).bind fun t113=>k t112 t113 r.2
def GX (t17:V) (k:V→Rv):Rv:=
 k t17
def GY (t1 t2 t16:V) (k:V→V→Rv):Rv:=
 (AL .sub t16 t1).bind fun t117=>(AL .sub t2 t16).bind fun t120=>k t117 t120
def GZ (t12:V) (k:V→Rv):Rv:=
 (AL .quo t12 (V.int .i64 8)).bind fun t122=>k t122
def Gf (t18 t19:V) (k:V→Rv):Rv:=
 (AL .lss t18 t19).bind fun t125=>k t125
def IX (t18 t20:V) (k:V→Rv):Rv:=
 (AL .geq t18 t20).bind fun t128=>k t128
def IY (t0 t1 t3 t4 t16:V) (h:List V) (k:List V→Rv):Rv:=
 (Cl 50 (Ac [(V.weak t0),t1,t16,t3,t4]) h).bind fun r=>k r.2
def IZ (t16:V) (k:V→Rv):Rv:=
 (AL .add t16 (V.int .i64 1)).bind fun t136=>k t136
def Ia (t19 t20:V) (k:V→Rv):Rv:=
 (AL .geq t19 t20).bind fun t139=>k t139
def Ib (t0 t2 t3 t4 t16:V) (h:List V) (k:List V→Rv):Rv:=
 (AL .add t16 (V.int .i64 1)).bind fun t142=>(Cl 50 (Ac [(V.weak t0),t142,t2,t3,t4]) h).bind fun r=>k r.2
def Ic (t16:V) (k:V→Rv):Rv:=
 k t16
def Jw (t0 t1 t2 t4:V) (h:List V) (k:V→List V→Rv):Rv:=
 (Cl 62 (Ac [(V.weak t0),t1,t2,t4]) h).bind fun r=>k r.1 r.2
def Rt (t0 t1 t2 t4:V) (h:List V) (k:List V→Rv):Rv:=
 (Cl 61 (Ac [(V.weak t0),t1,t2,t4]) h).bind fun r=>k r.2
def Ru (t1 t2 t13:V) (k:V→Rv):Rv:=
 (AL .sub t2 (V.int .i64 1)).bind fun t63=>(AL .sub t13 t1).bind fun t66=>(AL .sub t63 t66).bind fun t67=>k t67
def Rw (k:V→Rv):Rv:=
 k (V.int .i64 1)
def AAG (t0 t1 t2 t4:V) (h:List V) (k:List V→Rv):Rv:=
 (Cl 59 (Ac [(V.weak t0),t1,t2,t4]) h).bind fun r=>k r.2
def AAH (t3:V) (k:V→Rv):Rv:=
 (AL .sub t3 (V.int .i64 1)).bind fun t46=>k t46
theorem Kv (t0 t1 t2 t3 t4 t10 t11:V) (n:Nat) (h:List V):DF t0 t1 t2 t3 t4 t10 t11 n h=
 Rl t1 t2 fun a3=>
  Rn a3 fun a4=>
  V.ite a4
  (AAD t0 t1 t2 t4 h fun a5=>
  if(List.all [] V.okE)=true then AY n a5 (V.tup [])else none)
  (Vm t3 fun a6=>
  V.ite a6
  (AAE t0 t1 t2 t4 h fun a7=>
  if(List.all [] V.okE)=true then AY n a7 (V.tup [])else none)
  (AAF t10 fun a8=>
  jn (fun a9 a10=>Ro t0 t1 t2 t4 a10 fun a11 a12 a13=>
  Rq a12 fun a14=>
  jn (fun a15 a16 a17=>MX t10 t11 a16 fun a18=>
  jn (fun a19=>GU t0 t1 t4 a15 a19 fun a20 a21=>
  V.ite a20
  (IV t0 t1 t2 t4 a15 a21 fun a22 a23=>
  IW a22 fun a24=>
  DF t0 a24 t2 a9 t4 t10 t11 n a23)
  (GV t0 t1 t2 t4 a15 a21 fun a25 a26 a27=>
  GX a26 fun a28=>
  GY t1 t2 a25 fun a29 a30=>
  GZ a3 fun a31=>
  Gf a29 a30 fun a32=>
  V.ite a32
  (IX a29 a31 fun a33=>
  IY t0 t1 a9 t4 a25 a27 fun a34=>
  IZ a25 fun a35=>
  DF t0 a35 t2 a9 t4 a33 a28 n a34)
  (Ia a30 a31 fun a36=>
  Ib t0 t2 a9 t4 a25 a27 fun a37=>
  Ic a25 fun a38=>
  DF t0 t1 a38 a9 t4 a36 a28 n a37)))
  (fun(j2:List V→Rv)=>V.ite a18
  (Jw t0 t1 t2 t4 a17 fun a39 a40=>
  V.ite a39
  (if(List.all [] V.okE)=true then AY n a40 (V.tup [])else none)
  (j2 a40))
  (j2 a17)))
  (fun(j1:V→V→List V→Rv)=>V.ite a14
  (Rt t0 t1 t2 t4 a13 fun a41=>
  Ru t1 t2 a11 fun a42=>
  Rw fun a43=>
  j1 a42 a43 a41)
  (j1 a11 a12 a13)))
  (fun(j0:V→List V→Rv)=>V.ite a8
  (AAG t0 t1 t2 t4 h fun a44=>
  AAH t3 fun a45=>
  j0 a45 a44)
  (j0 t3 h)))):=
 Cm (MV<|Aj<|Az (fun K u12=>K ⟨[(0,t0),(1,t1),(2,t2),(3,t3),(4,t4),(10,t10),(11,t11),(12,u12)],h⟩) (funext fun a3=>Ae<|Aj<|Aj<|Az (fun K u25=>K ⟨[(0,t0),(1,t1),(2,t2),(3,t3),(4,t4),(10,t10),(11,t11),(12,a3),(25,u25)],h⟩) (funext fun a4=>Ae<|Bg (by kernel_rfl) (DC<|Ae<|Aj<|Aj<|Az (fun K u32=>K ⟨[(0,t0),(1,t1),(2,t2),(3,t3),(4,t4),(10,t10),(11,t11),(12,a3),(32,u32)],h⟩) (funext fun a6=>Ae<|Bg (by kernel_rfl) (DC<|Ae<|Aj<|Aj<|Az (fun K u39=>K ⟨[(0,t0),(1,t1),(2,t2),(3,t3),(4,t4),(10,t10),(11,t11),(12,a3),(39,u39)],h⟩) (funext fun a8=>Ae<|KY (fun K a9 a10=>K ⟨[(0,t0),(1,t1),(2,t2),(3,a9),(4,t4),(10,t10),(11,t11),(12,a3)],a10⟩) (funext fun a9=>funext fun a10=>Ae<|Aj<|Az (fun K u13 u14 h'=>K ⟨[(0,t0),(1,t1),(2,t2),(3,a9),(4,t4),(10,t10),(11,t11),(12,a3),(13,u13),(14,u14)],h'⟩) (funext fun a11=>funext fun a12=>funext fun a13=>Ae<|Aj<|Aj<|Az (fun K u56=>K ⟨[(0,t0),(1,t1),(2,t2),(3,a9),(4,t4),(10,t10),(11,t11),(12,a3),(13,a11),(14,a12),(56,u56)],a13⟩) (funext fun a14=>Ae<|KY (fun K a15 a16 a17=>K ⟨[(0,t0),(1,t1),(2,t2),(3,a9),(4,t4),(10,t10),(11,t11),(12,a3),(13,a15),(14,a16)],a17⟩) (funext fun a15=>funext fun a16=>funext fun a17=>Ae<|Aj<|Aj<|Az (fun K u75=>K ⟨[(0,t0),(1,t1),(2,t2),(3,a9),(4,t4),(10,t10),(11,t11),(12,a3),(13,a15),(75,u75)],a17⟩) (funext fun a18=>Ae<|KY (fun K a19=>K ⟨[(0,t0),(1,t1),(2,t2),(3,a9),(4,t4),(10,t10),(11,t11),(12,a3),(13,a15)],a19⟩) (funext fun a19=>by kernel_rfl) (Bg (Aj<|Az (fun K u80 h'=>K ⟨[(0,t0),(1,t1),(2,t2),(3,a9),(4,t4),(10,t10),(11,t11),(12,a3),(13,a15),(80,u80)],h'⟩) (funext fun a39=>funext fun a40=>Ae<|Bg (by kernel_rfl) (DC<|PI))) (DC<|PI)))) (Bg (Aj<|Az (fun K h'=>K ⟨[(0,t0),(1,t1),(2,t2),(3,a9),(4,t4),(10,t10),(11,t11),(12,a3),(13,a11)],h'⟩) (funext fun a41=>Ae<|Aj<|Az (fun K u13=>K ⟨[(0,t0),(1,t1),(2,t2),(3,a9),(4,t4),(10,t10),(11,t11),(12,a3),(13,u13)],a41⟩) (funext fun a42=>Ae<|Az (fun K u14=>K ⟨[(0,t0),(1,t1),(2,t2),(3,a9),(4,t4),(10,t10),(11,t11),(12,a3),(13,a42),(14,u14)],a41⟩) (funext fun a43=>rfl)))) (DC<|PI))))) (Bg (Aj<|Az (fun K h'=>K ⟨[(0,t0),(1,t1),(2,t2),(3,t3),(4,t4),(10,t10),(11,t11),(12,a3)],h'⟩) (funext fun a44=>Ae<|Az (fun K u3=>K ⟨[(0,t0),(1,t1),(2,t2),(3,u3),(4,t4),(10,t10),(11,t11),(12,a3)],a44⟩) (funext fun a45=>rfl))) (DC<|PI)))))))))
theorem AFN (t0 t1 t2 t3 t4:V) (h:List V):Cl 50 [t0,t1,t2,t3,t4] h=
 AAB fun a1=>
  AAC fun a2=>
  DF t0 t1 t2 t3 t4 a1 a2 (List.length h) h:=
 Bh (by kernel_rfl)
def AAI (k:Rv):Rv:=
 k
def AFO (t0:V) (k:V→Rv):Rv:=
 (conv P [] 77 90 t0).bind fun t4=>(Cl 65 (AZ [] [t4]) []).bind fun r=>k r.1
def AAJ (t0:V) (k:V→Rv):Rv:=
 (Cl 66 (AZ [] [t0]) []).bind fun r=>k r.1
theorem AFP (t0:V):Cl 51 [t0] []=
 AAI (V.ite (V.bool false)
  (AFO t0 fun a1=>
  AY 0 [] a1)
  (AAJ t0 fun a2=>
  AY 0 [] a2)):=
 Bh (by kernel_rfl)
def NU (t0 t1 t2 t3 t9 t10:V) (h:List V):Rv:=lp W 54 0 (cd 54 2303) (bk 0 (sk 54 0 1023 (lv 54 0))) ⟨[(0,t0),(1,t1),(2,t2),(3,t3),(9,t9),(10,t10)],h⟩
theorem P6 (t0 t1 t2 t3 t9 t10:V) (h:List V):NU t0 t1 t2 t3 t9 t10 h=
 (AL .lss t10 t3).bind fun a12=>V.ite a12
  ((Cl 74 (AZ h [t0,t1]) []).bind fun a13=>(AL .lss a13.1 (V.int .i64 0)).bind fun a14=>V.ite a14
  ((D6 9 (V.weak t9) t10).bind fun a15=>(Ju tyS 9 h a15 t0).bind fun a16=>(AL .add t10 (V.int .i64 1)).bind fun a17=>(Zc 9 t9 none (some a17) none).bind fun a18=>AY 0 a16 a18)
  ((AL .add a13.1 t2).bind fun a19=>(UO t0 none (some a19)).bind fun a20=>(D6 9 (V.weak t9) t10).bind fun a21=>(Ju tyS 9 h a21 a20).bind fun a22=>(MW t1).bind fun a23=>(AL .add a13.1 a23).bind fun a24=>(UO t0 (some a24) none).bind fun a25=>(AL .add t10 (V.int .i64 1)).bind fun a26=>NU a25 t1 t2 t3 t9 a26 a22))
  ((D6 9 (V.weak t9) t10).bind fun a27=>(Ju tyS 9 h a27 t0).bind fun a28=>(AL .add t10 (V.int .i64 1)).bind fun a29=>(Zc 9 t9 none (some a29) none).bind fun a30=>AY 0 a28 a30):=
 Cm (by kernel_rfl)
theorem AFQ (t0 t1 t2 t3:V):Cl 54 [t0,t1,t2,t3] []=
 (AL .eql t3 (V.int .i64 0)).bind fun a1=>V.ite a1
  (AY 0 [] (V.weak (V.lst 9 .nil [])))
  ((AL .eql t1 (V.str [])).bind fun a2=>V.ite a2
  ((Cl 72 (AZ [] [t0,t3]) []).bind fun a3=>AY 0 [] a3.1)
  ((AL .lss t3 (V.int .i64 0)).bind fun a4=>jn (fun a5=>(MW t0).bind fun a6=>(AL .add a6 (V.int .i64 1)).bind fun a7=>(PD a5 a7).bind fun a8=>(mkL 9 (V.str []) a8 a8).bind fun a9=>(FT [] a9).bind fun a10=>(AL .sub a8 (V.int .i64 1)).bind fun a11=>NU t0 t1 t2 a11 a10.1 (V.int .i64 0) a10.2)
  (fun(j0:V→Rv)=>V.ite a4
  ((Cl 73 (AZ [] [t0,t1]) []).bind fun a31=>(AL .add a31.1 (V.int .i64 1)).bind fun a32=>j0 a32)
  (j0 t3)))):=
 Bh (by kernel_rfl)
def AAK (t1:V) (k:V→Rv):Rv:=
 (AL .add t1 (V.int .i64 1)).bind fun t11=>k t11
def NV (t0 t1 t2 t3 t8:V) (n:Nat) (h:List V):Rv:=lp W 57 0 (cd 57 9) (bk 0 (lv 57 n)) ⟨[(0,t0),(1,t1),(2,t2),(3,t3),(8,t8)],h⟩
def Vo (t2 t8:V) (k:V→Rv):Rv:=
 (AL .lss t8 t2).bind fun t14=>k t14
def AAL (t8:V) (k:V→Rv):Rv:=
 k t8
def Rx (t0 t1 t2 t3 t8 t9:V) (n:Nat) (m0:Nat) (h:List V):Rv:=lp W 57 2 (cd 57 585) (bk 2 (bk 1 (sk 57 0 57 (lk 57 0 m0 9 (bk 0 (lv 57 n)))))) ⟨[(0,t0),(1,t1),(2,t2),(3,t3),(8,t8),(9,t9)],h⟩
def Vp (t0 t1 t3 t9:V) (h:List V) (k:V→List V→Rv):Rv:=
 (AL .gtr t9 t1).bind fun t20=>V.ite t20 ((AP P 22 (V.weak t0) t9).bind fun t25=>(A8 h 45 t25).bind fun t26=>(AL .sub t9 (V.int .i64 1)).bind fun t29=>(AP P 22 (V.weak t0) t29).bind fun t30=>(A8 h 45 t30).bind fun t31=>BQ P Df W t3 [t26,t31] h fun t32 a1=>if V.noOwn t32=true then(AL .lss t32 (V.int .i64 0)).bind fun t33=>k t33 a1 else none) (k (V.bool false) h)
def AAM (t0 t9:V) (h:List V) (k:List V→Rv):Rv:=
 (AL .sub t9 (V.int .i64 1)).bind fun t41=>(AL .sub t9 (V.int .i64 1)).bind fun t44=>(AP P 22 (V.weak t0) t44).bind fun t45=>(A8 h 45 t45).bind fun t46=>(AP P 22 (V.weak t0) t9).bind fun t49=>(A8 h 45 t49).bind fun t50=>(AP P 22 (V.weak t0) t9).bind fun t51=>(EY P h 45 t51 t46).bind fun a1=>(AP P 22 (V.weak t0) t41).bind fun t52=>(EY P a1 45 t52 t50).bind fun a2=>k a2
def AAN (t9:V) (k:V→Rv):Rv:=
 (AL .sub t9 (V.int .i64 1)).bind fun t36=>k t36
def Ry (t8:V) (k:V→Rv):Rv:=
 (AL .add t8 (V.int .i64 1)).bind fun t16=>k t16
theorem P7 (t0 t1 t2 t3 t8 t9:V) (n:Nat) (m0:Nat) (h:List V):Rx t0 t1 t2 t3 t8 t9 n m0 h=
 Vp t0 t1 t3 t9 h fun a4 a5=>
  V.ite a4
  (AAM t0 t9 a5 fun a6=>
  AAN t9 fun a7=>
  Rx t0 t1 t2 t3 t8 a7 n m0 a6)
  (Ry t8 fun a8=>
  NV t0 t1 t2 t3 a8 n a5):=
 Cm (by kernel_rfl)
theorem P8 (t0 t1 t2 t3 t8:V) (n:Nat) (h:List V):NV t0 t1 t2 t3 t8 n h=
 Vo t2 t8 fun a2=>
  V.ite a2
  (AAL t8 fun a3=>
  Rx t0 t1 t2 t3 t8 a3 n (List.length h) h)
  (if(List.all [] V.okE)=true then AY n h (V.tup [])else none):=
 Cm (by kernel_rfl)
theorem AFR (t0 t1 t2 t3:V) (h:List V):Cl 57 [t0,t1,t2,t3] h=
 AAK t1 fun a1=>
  NV t0 t1 t2 t3 a1 (List.length h) h:=
 Bh (by kernel_rfl)
def AAO (t1:V) (k:V→Rv):Rv:=
 k t1
def AAP (k:V→Rv):Rv:=
 k (V.int .i64 0)
def AAQ (t1 t2:V) (k:V→Rv):Rv:=
 (AL .sub t2 t1).bind fun t16=>k t16
def AAR (t10:V) (k:V→Rv):Rv:=
 (AL .sub t10 (V.int .i64 1)).bind fun t18=>(AL .quo t18 (V.int .i64 2)).bind fun t19=>k t19
def Rz (t0 t3 t8 t9 t10 t11:V) (n:Nat) (h:List V):Rv:=lp W 58 0 (cd 58 151) (bk 0 (sk 58 0 31 (lv 58 n))) ⟨[(0,t0),(3,t3),(8,t8),(9,t9),(10,t10),(11,t11)],h⟩
def Vq (t11:V) (k:V→Rv):Rv:=
 (AL .geq t11 (V.int .i64 0)).bind fun t21=>k t21
def AAS (t0 t3 t8 t10 t11:V) (h:List V) (k:List V→Rv):Rv:=
 (Cl 80 (Ac [(V.weak t0),t11,t10,t8,t3]) h).bind fun r=>k r.2
def AAT (t11:V) (k:V→Rv):Rv:=
 (AL .sub t11 (V.int .i64 1)).bind fun t23=>k t23
def AAU (t10:V) (k:V→Rv):Rv:=
 (AL .sub t10 (V.int .i64 1)).bind fun t31=>k t31
def SA (t0 t3 t8 t9 t12:V) (n:Nat) (h:List V):Rv:=lp W 58 2 (cd 58 159) (bk 2 (lv 58 n)) ⟨[(0,t0),(3,t3),(8,t8),(9,t9),(12,t12)],h⟩
def Vr (t12:V) (k:V→Rv):Rv:=
 (AL .geq t12 (V.int .i64 0)).bind fun t33=>k t33
def Xa (t0 t8 t12:V) (h:List V) (k:List V→Rv):Rv:=
 (AL .add t8 t12).bind fun t41=>(AL .add t8 t12).bind fun t45=>(AP P 22 (V.weak t0) t45).bind fun t46=>(A8 h 45 t46).bind fun t47=>(AP P 22 (V.weak t0) t8).bind fun t50=>(A8 h 45 t50).bind fun t51=>(AP P 22 (V.weak t0) t8).bind fun t52=>(EY P h 45 t52 t47).bind fun a1=>(AP P 22 (V.weak t0) t41).bind fun t53=>(EY P a1 45 t53 t51).bind fun a2=>k a2
def Xb (t0 t3 t8 t9 t12:V) (h:List V) (k:List V→Rv):Rv:=
 (Cl 80 (Ac [(V.weak t0),t9,t12,t8,t3]) h).bind fun r=>k r.2
def AAV (t12:V) (k:V→Rv):Rv:=
 (AL .sub t12 (V.int .i64 1)).bind fun t35=>k t35
theorem P9 (t0 t3 t8 t9 t12:V) (n:Nat) (h:List V):SA t0 t3 t8 t9 t12 n h=
 Vr t12 fun a9=>
  V.ite a9
  (Xa t0 t8 t12 h fun a10=>
  Xb t0 t3 t8 t9 t12 a10 fun a11=>
  AAV t12 fun a12=>
  SA t0 t3 t8 t9 a12 n a11)
  (if(List.all [] V.okE)=true then AY n h (V.tup [])else none):=
 Cm (by kernel_rfl)
theorem QA (t0 t3 t8 t9 t10 t11:V) (n:Nat) (h:List V):Rz t0 t3 t8 t9 t10 t11 n h=
 Vq t11 fun a5=>
  V.ite a5
  (AAS t0 t3 t8 t10 t11 h fun a6=>
  AAT t11 fun a7=>
  Rz t0 t3 t8 t9 t10 a7 n a6)
  (AAU t10 fun a8=>
  SA t0 t3 t8 t9 a8 n h):=
 Cm (by kernel_rfl)
theorem AFS (t0 t1 t2 t3:V) (h:List V):Cl 58 [t0,t1,t2,t3] h=
 AAO t1 fun a1=>
  AAP fun a2=>
  AAQ t1 t2 fun a3=>
  AAR a3 fun a4=>
  Rz t0 t3 a1 a2 a3 a4 (List.length h) h:=
 Bh (by kernel_rfl)
def AAW (t1 t2:V) (k:V→Rv):Rv:=
 (AL .sub t2 t1).bind fun t15=>k t15
def AAX (t8:V) (k:V→Rv):Rv:=
 (AL .geq t8 (V.int .i64 8)).bind fun t17=>k t17
def AAY (t8:V) (h:List V) (k:V→List V→Rv):Rv:=
 (conv P h 3 103 t8).bind fun t19=>(EY P (h++[zero P 103]) 103 (V.ref (List.length h) [] 103) t19).bind fun a1=>k (V.ref (List.length h) [] 103) a1
def AAZ (t8:V) (h:List V) (k:V→Rv):Rv:=
 (Cl 81 (AZ h [t8]) []).bind fun r=>k r.1
def AAa (t1 t8:V) (k:V→Rv):Rv:=
 (AL .quo t8 (V.int .i64 4)).bind fun t24=>(AL .mul t24 (V.int .i64 2)).bind fun t25=>(AL .add t1 t25).bind fun t26=>(AL .sub t26 (V.int .i64 1)).bind fun t27=>k t27
def JZ (t0 t1 t8 t9 t10 t11:V) (n:Nat) (h:List V):Rv:=lp W 59 0 (cd 59 315) (bk 0 (lv 59 n)) ⟨[(0,t0),(1,t1),(8,t8),(9,t9),(10,t10),(11,t11)],h⟩
def Vs (t1 t8 t11:V) (k:V→Rv):Rv:=
 (AL .quo t8 (V.int .i64 4)).bind fun t31=>(AL .mul t31 (V.int .i64 2)).bind fun t32=>(AL .add t1 t32).bind fun t33=>(AL .add t33 (V.int .i64 1)).bind fun t34=>(AL .leq t11 t34).bind fun t35=>k t35
def AAb (t9 t10:V) (h:List V) (k:V→List V→Rv):Rv:=
 (Cl 82 (Ac [t9]) h).bind fun r=>(AL .sub t10 (V.int .u64 1)).bind fun t40=>(AL .and r.1 t40).bind fun t41=>(conv P r.2 77 3 t41).bind fun t42=>k t42 r.2
def AAc (t8 t12:V) (k:V→Rv):Rv:=
 (AL .geq t12 t8).bind fun t45=>k t45
def SB (t0 t1 t11 t12:V) (h:List V) (k:List V→Rv):Rv:=
 (AL .add t1 t12).bind fun t54=>(AL .add t1 t12).bind fun t58=>(AP P 22 (V.weak t0) t58).bind fun t59=>(A8 h 45 t59).bind fun t60=>(AP P 22 (V.weak t0) t11).bind fun t63=>(A8 h 45 t63).bind fun t64=>(AP P 22 (V.weak t0) t11).bind fun t65=>(EY P h 45 t65 t60).bind fun a1=>(AP P 22 (V.weak t0) t54).bind fun t66=>(EY P a1 45 t66 t64).bind fun a2=>k a2
def Vt (t11:V) (k:V→Rv):Rv:=
 (AL .add t11 (V.int .i64 1)).bind fun t37=>k t37
def AAd (t8 t12:V) (k:V→Rv):Rv:=
 (AL .sub t12 t8).bind fun t48=>k t48
theorem QB (t0 t1 t8 t9 t10 t11:V) (n:Nat) (h:List V):JZ t0 t1 t8 t9 t10 t11 n h=
 Vs t1 t8 t11 fun a7=>
  V.ite a7
  (AAb t9 t10 h fun a8 a9=>
  AAc t8 a8 fun a10=>
  jn (fun a11=>SB t0 t1 t11 a11 a9 fun a12=>
  Vt t11 fun a13=>
  JZ t0 t1 t8 t9 t10 a13 n a12)
  (fun(j0:V→Rv)=>V.ite a10
  (AAd t8 a8 fun a14=>
  j0 a14)
  (j0 a8)))
  (if(List.all [] V.okE)=true then AY n h (V.tup [])else none):=
 Cm (Aj<|Aj<|Az (fun K u35=>K ⟨[(0,t0),(1,t1),(8,t8),(9,t9),(10,t10),(11,t11),(35,u35)],h⟩) (funext fun a7=>Ae<|Bg (DC<|Ae<|Aj<|MV<|Aj<|Az (fun K u12 h'=>K ⟨[(0,t0),(1,t1),(8,t8),(9,t9),(10,t10),(11,t11),(12,u12)],h'⟩) (funext fun a8=>funext fun a9=>Ae<|Aj<|Aj<|Az (fun K u45=>K ⟨[(0,t0),(1,t1),(8,t8),(9,t9),(10,t10),(11,t11),(12,a8),(45,u45)],a9⟩) (funext fun a10=>Ae<|KY (fun K a11=>K ⟨[(0,t0),(1,t1),(8,t8),(9,t9),(10,t10),(11,t11),(12,a11)],a9⟩) (funext fun a11=>by kernel_rfl) (Bg (by kernel_rfl) (by kernel_rfl))))) (by kernel_rfl)))
theorem AFT (t0 t1 t2 t3:V) (h:List V):Cl 59 [t0,t1,t2,t3] h=
 AAW t1 t2 fun a1=>
  AAX a1 fun a2=>
  V.ite a2
  (AAY a1 h fun a3 a4=>
  AAZ a1 a4 fun a5=>
  AAa t1 a1 fun a6=>
  JZ t0 t1 a1 a3 a5 a6 (List.length h) a4)
  (if(List.all [] V.okE)=true then AY (List.length h) h (V.tup [])else none):=
 Bh (by kernel_rfl)
def AAe (k:Rv):Rv:=
 k
def AAf (t1 t2:V) (k:V→Rv):Rv:=
 (AL .sub t2 t1).bind fun t17=>k t17
def AAg (h:List V) (k:V→List V→Rv):Rv:=
 k (V.ref (List.length h) [] 3) (h++[zero P 3])
def AAh (t1 t10:V) (k:V→Rv):Rv:=
 (AL .quo t10 (V.int .i64 4)).bind fun t20=>(AL .mul t20 (V.int .i64 1)).bind fun t21=>(AL .add t1 t21).bind fun t22=>k t22
def AAi (t1 t10:V) (k:V→Rv):Rv:=
 (AL .quo t10 (V.int .i64 4)).bind fun t25=>(AL .mul t25 (V.int .i64 2)).bind fun t26=>(AL .add t1 t26).bind fun t27=>k t27
def AAj (t1 t10:V) (k:V→Rv):Rv:=
 (AL .quo t10 (V.int .i64 4)).bind fun t30=>(AL .mul t30 (V.int .i64 3)).bind fun t31=>(AL .add t1 t31).bind fun t32=>k t32
def AAk (t10:V) (k:V→Rv):Rv:=
 (AL .geq t10 (V.int .i64 8)).bind fun t34=>k t34
def SC (t11:V) (h:List V) (k:V→Rv):Rv:=
 (A8 h 3 t11).bind fun t55=>k t55
def SE (t55:V) (k:V→Rv):Rv:=
 (AL .eql t55 (V.int .i64 0)).bind fun t58=>k t58
def SG (t13:V) (k:V→V→Rv):Rv:=
 k t13 (V.int .i64 1)
def SH (t55:V) (k:V→Rv):Rv:=
 (AL .eql t55 (V.int .i64 12)).bind fun t61=>k t61
def SI (t13:V) (k:V→V→Rv):Rv:=
 k t13 (V.int .i64 2)
def SK (t13:V) (k:V→V→Rv):Rv:=
 k t13 (V.int .i64 0)
def AAl (t10:V) (k:V→Rv):Rv:=
 (AL .geq t10 (V.int .i64 50)).bind fun t36=>k t36
def SL (t0 t3 t11 t12 t13 t14:V) (h:List V) (k:V→List V→Rv):Rv:=
 (Cl 84 (Ac [t0,t12,t13,t14,t11,t3]) h).bind fun r=>k r.1 r.2
def AAm (t0 t3 t11 t12:V) (h:List V) (k:V→List V→Rv):Rv:=
 (Cl 83 (Ac [(V.weak t0),t12,t11,t3]) h).bind fun r=>k r.1 r.2
def AAn (t0 t3 t11 t13:V) (h:List V) (k:V→List V→Rv):Rv:=
 (Cl 83 (Ac [(V.weak t0),t13,t11,t3]) h).bind fun r=>k r.1 r.2
def Xc (t0 t3 t11 t14:V) (h:List V) (k:V→List V→Rv):Rv:=
 (Cl 83 (Ac [(V.weak t0),t14,t11,t3]) h).bind fun r=>k r.1 r.2
theorem AFU (t0 t1 t2 t3:V) (h:List V):Cl 60 [t0,t1,t2,t3] h=
 AAe (AAf t1 t2 fun a1=>
  AAg h fun a2 a3=>
  AAh t1 a1 fun a4=>
  AAi t1 a1 fun a5=>
  AAj t1 a1 fun a6=>
  AAk a1 fun a7=>
  jn (fun a8 a9=>SC a2 a9 fun a10=>
  SE a10 fun a11=>
  V.ite a11
  (SG a8 fun a12 a13=>
  if(List.all [a13,a12] V.okE)=true then AY (List.length h) a9 (V.tup [a12,a13])else none)
  (SH a10 fun a14=>
  V.ite a14
  (SI a8 fun a15 a16=>
  if(List.all [a16,a15] V.okE)=true then AY (List.length h) a9 (V.tup [a15,a16])else none)
  (SK a8 fun a17 a18=>
  if(List.all [a18,a17] V.okE)=true then AY (List.length h) a9 (V.tup [a17,a18])else none)))
  (fun(j0:V→List V→Rv)=>V.ite a7
  (AAl a1 fun a19=>
  jn (fun a20 a21 a22 a23=>SL t0 t3 a2 a20 a21 a22 a23 fun a24 a25=>
  j0 a24 a25)
  (fun(j1:V→V→V→List V→Rv)=>V.ite a19
  (AAm t0 t3 a2 a4 a3 fun a26 a27=>
  AAn t0 t3 a2 a5 a27 fun a28 a29=>
  Xc t0 t3 a2 a6 a29 fun a30 a31=>
  j1 a26 a28 a30 a31)
  (j1 a4 a5 a6 a3)))
  (j0 a5 a3))):=
 Bh (Aj<|Az (fun K=>K ⟨[(0,t0),(1,t1),(2,t2),(3,t3)],h⟩) (Ae<|Aj<|Az (fun K u10=>K ⟨[(0,t0),(1,t1),(3,t3),(10,u10)],h⟩) (funext fun a1=>Ae<|Aj<|Az (fun K u11 h'=>K ⟨[(0,t0),(1,t1),(3,t3),(10,a1),(11,u11)],h'⟩) (funext fun a2=>funext fun a3=>Ae<|Aj<|Az (fun K u12=>K ⟨[(0,t0),(1,t1),(3,t3),(10,a1),(11,a2),(12,u12)],a3⟩) (funext fun a4=>Ae<|Aj<|Az (fun K u13=>K ⟨[(0,t0),(1,t1),(3,t3),(10,a1),(11,a2),(12,a4),(13,u13)],a3⟩) (funext fun a5=>Ae<|Aj<|Az (fun K u14=>K ⟨[(0,t0),(3,t3),(10,a1),(11,a2),(12,a4),(13,a5),(14,u14)],a3⟩) (funext fun a6=>Ae<|Aj<|Aj<|Az (fun K u34=>K ⟨[(0,t0),(3,t3),(10,a1),(11,a2),(12,a4),(13,a5),(14,a6),(34,u34)],a3⟩) (funext fun a7=>Ae<|KY (fun K a8 a9=>K ⟨[(11,a2),(13,a8)],a9⟩) (funext fun a8=>funext fun a9=>by kernel_rfl) (Bg (Aj<|Aj<|Az (fun K u36=>K ⟨[(0,t0),(3,t3),(11,a2),(12,a4),(13,a5),(14,a6),(36,u36)],a3⟩) (funext fun a19=>Ae<|KY (fun K a20 a21 a22 a23=>K ⟨[(0,t0),(3,t3),(11,a2),(12,a20),(13,a21),(14,a22)],a23⟩) (funext fun a20=>funext fun a21=>funext fun a22=>funext fun a23=>Ae<|Az (fun K u13 h'=>K ⟨[(11,a2),(13,u13)],h'⟩) (funext fun a24=>funext fun a25=>rfl)) (Bg (Aj<|Az (fun K u12 h'=>K ⟨[(0,t0),(3,t3),(11,a2),(12,u12),(13,a5),(14,a6)],h'⟩) (funext fun a26=>funext fun a27=>Ae<|Aj<|Az (fun K u13 h'=>K ⟨[(0,t0),(3,t3),(11,a2),(12,a26),(13,u13),(14,a6)],h'⟩) (funext fun a28=>funext fun a29=>Ae<|Az (fun K u14 h'=>K ⟨[(0,t0),(3,t3),(11,a2),(12,a26),(13,a28),(14,u14)],h'⟩) (funext fun a30=>funext fun a31=>rfl)))) (DC<|PI)))) (DC<|PI))))))))))
def AAo (t1:V) (k:V→Rv):Rv:=
 k t1
def AAp (t2:V) (k:V→Rv):Rv:=
 (AL .sub t2 (V.int .i64 1)).bind fun t12=>k t12
def SN (t0 t8 t9:V) (n:Nat) (h:List V):Rv:=lp W 61 0 (cd 61 19) (bk 0 (lv 61 n)) ⟨[(0,t0),(8,t8),(9,t9)],h⟩
def Vu (t8 t9:V) (k:V→Rv):Rv:=
 (AL .lss t8 t9).bind fun t15=>k t15
def AAq (t0 t8 t9:V) (h:List V) (k:List V→Rv):Rv:=
 (AP P 22 (V.weak t0) t9).bind fun t22=>(A8 h 45 t22).bind fun t23=>(AP P 22 (V.weak t0) t8).bind fun t26=>(A8 h 45 t26).bind fun t27=>(AP P 22 (V.weak t0) t8).bind fun t28=>(EY P h 45 t28 t23).bind fun a1=>(AP P 22 (V.weak t0) t9).bind fun t29=>(EY P a1 45 t29 t27).bind fun a2=>k a2
def AAr (t8:V) (k:V→Rv):Rv:=
 (AL .add t8 (V.int .i64 1)).bind fun t31=>k t31
def AAs (t9:V) (k:V→Rv):Rv:=
 (AL .sub t9 (V.int .i64 1)).bind fun t33=>k t33
theorem QC (t0 t8 t9:V) (n:Nat) (h:List V):SN t0 t8 t9 n h=
 Vu t8 t9 fun a3=>
  V.ite a3
  (AAq t0 t8 t9 h fun a4=>
  AAr t8 fun a5=>
  AAs t9 fun a6=>
  SN t0 a5 a6 n a4)
  (if(List.all [] V.okE)=true then AY n h (V.tup [])else none):=
 Cm (by kernel_rfl)
theorem AFV (t0 t1 t2 t3:V) (h:List V):Cl 61 [t0,t1,t2,t3] h=
 AAo t1 fun a1=>
  AAp t2 fun a2=>
  SN t0 a1 a2 (List.length h) h:=
 Bh (by kernel_rfl)
def AAt (k:Rv):Rv:=
 k
def AAu (t1:V) (k:V→Rv):Rv:=
 (AL .add t1 (V.int .i64 1)).bind fun t14=>k t14
def AAv (k:V→Rv):Rv:=
 k (V.int .i64 0)
def EZ (t0 t1 t2 t3 t9 t10:V) (n:Nat) (h:List V):Rv:=lp W 62 0 (cd 62 75) (bk 0 (sk 62 0 15 (lv 62 n))) ⟨[(0,t0),(1,t1),(2,t2),(3,t3),(9,t9),(10,t10)],h⟩
def Vw (t10:V) (k:V→Rv):Rv:=
 (AL .lss t10 (V.int .i64 5)).bind fun t16=>k t16
def SQ (t0 t1 t2 t3 t9 t10:V) (n:Nat) (m0:Nat) (h:List V):Rv:=lp W 62 2 (cd 62 4171) (bk 2 (sk 62 1 1611 (bk 1 (sk 62 0 459 (lk 62 0 m0 75 (bk 0 (sk 62 0 15 (lv 62 n)))))))) ⟨[(0,t0),(1,t1),(2,t2),(3,t3),(9,t9),(10,t10)],h⟩
def Vx (t0 t2 t3 t9:V) (h:List V) (k:V→List V→Rv):Rv:=
 (AL .lss t9 t2).bind fun t21=>V.ite t21 ((AP P 22 (V.weak t0) t9).bind fun t26=>(A8 h 45 t26).bind fun t27=>(AL .sub t9 (V.int .i64 1)).bind fun t30=>(AP P 22 (V.weak t0) t30).bind fun t31=>(A8 h 45 t31).bind fun t32=>BQ P Df W t3 [t27,t32] h fun t33 a1=>if V.noOwn t33=true then(AL .lss t33 (V.int .i64 0)).bind fun t34=>(un .not t34).bind fun t35=>k t35 a1 else none) (k (V.bool false) h)
def AAw (t9:V) (k:V→Rv):Rv:=
 (AL .add t9 (V.int .i64 1)).bind fun t38=>k t38
def Vy (t2 t9:V) (k:V→Rv):Rv:=
 (AL .eql t9 t2).bind fun t41=>k t41
def Vz (k:V→Rv):Rv:=
 k (V.bool true)
def V3 (t1 t2:V) (k:V→Rv):Rv:=
 (AL .sub t2 t1).bind fun t44=>(AL .lss t44 (V.int .i64 50)).bind fun t45=>k t45
def SS (k:V→Rv):Rv:=
 k (V.bool false)
def SV (t0 t9:V) (h:List V) (k:List V→Rv):Rv:=
 (AL .sub t9 (V.int .i64 1)).bind fun t50=>(AL .sub t9 (V.int .i64 1)).bind fun t53=>(AP P 22 (V.weak t0) t53).bind fun t54=>(A8 h 45 t54).bind fun t55=>(AP P 22 (V.weak t0) t9).bind fun t58=>(A8 h 45 t58).bind fun t59=>(AP P 22 (V.weak t0) t9).bind fun t60=>(EY P h 45 t60 t55).bind fun a1=>(AP P 22 (V.weak t0) t50).bind fun t61=>(EY P a1 45 t61 t59).bind fun a2=>k a2
def SX (t1 t9:V) (k:V→Rv):Rv:=
 (AL .sub t9 t1).bind fun t64=>(AL .geq t64 (V.int .i64 2)).bind fun t65=>k t65
def Ie (t2 t9:V) (k:V→Rv):Rv:=
 (AL .sub t2 t9).bind fun t103=>(AL .geq t103 (V.int .i64 2)).bind fun t104=>k t104
def Ig (t9:V) (k:V→Rv):Rv:=
 (AL .add t9 (V.int .i64 1)).bind fun t106=>k t106
def He (t0 t1 t2 t3 t9 t10 t12:V) (n:Nat) (m0:Nat) (h:List V):Rv:=lp W 62 6 (cd 62 622155) (bk 6 (bk 1 (sk 62 0 459 (lk 62 0 m0 75 (bk 0 (sk 62 0 15 (lv 62 n))))))) ⟨[(0,t0),(1,t1),(2,t2),(3,t3),(9,t9),(10,t10),(12,t12)],h⟩
def SY (t2 t12:V) (k:V→Rv):Rv:=
 (AL .lss t12 t2).bind fun t109=>k t109
def Xd (t0 t3 t12:V) (h:List V) (k:V→List V→Rv):Rv:=
 (AP P 22 (V.weak t0) t12).bind fun t115=>(A8 h 45 t115).bind fun t116=>(AL .sub t12 (V.int .i64 1)).bind fun t119=>(AP P 22 (V.weak t0) t119).bind fun t120=>(A8 h 45 t120).bind fun t121=>BQ P Df W t3 [t116,t121] h fun t122 a1=>if V.noOwn t122=true then(AL .lss t122 (V.int .i64 0)).bind fun t123=>(un .not t123).bind fun t124=>k t124 a1 else none
def Gg (t10:V) (k:V→Rv):Rv:=
 (AL .add t10 (V.int .i64 1)).bind fun t18=>k t18
def Xe (t0 t12:V) (h:List V) (k:List V→Rv):Rv:=
 (AL .sub t12 (V.int .i64 1)).bind fun t129=>(AL .sub t12 (V.int .i64 1)).bind fun t132=>(AP P 22 (V.weak t0) t132).bind fun t133=>(A8 h 45 t133).bind fun t134=>(AP P 22 (V.weak t0) t12).bind fun t137=>(A8 h 45 t137).bind fun t138=>(AP P 22 (V.weak t0) t12).bind fun t139=>(EY P h 45 t139 t134).bind fun a1=>(AP P 22 (V.weak t0) t129).bind fun t140=>(EY P a1 45 t140 t138).bind fun a2=>k a2
def Xf (t12:V) (k:V→Rv):Rv:=
 (AL .add t12 (V.int .i64 1)).bind fun t111=>k t111
theorem QD (t0 t1 t2 t3 t9 t10 t12:V) (n:Nat) (m0:Nat) (h:List V):He t0 t1 t2 t3 t9 t10 t12 n m0 h=
 SY t2 t12 fun a16=>
  V.ite a16
  (Xd t0 t3 t12 h fun a17 a18=>
  V.ite a17
  (Gg t10 fun a19=>
  EZ t0 t1 t2 t3 t9 a19 n a18)
  (Xe t0 t12 a18 fun a20=>
  Xf t12 fun a21=>
  He t0 t1 t2 t3 t9 t10 a21 n m0 a20))
  (Gg t10 fun a22=>
  EZ t0 t1 t2 t3 t9 a22 n h):=
 Cm (by kernel_rfl)
def Si (t9:V) (k:V→Rv):Rv:=
 (AL .sub t9 (V.int .i64 1)).bind fun t67=>k t67
def NW (t0 t1 t2 t3 t9 t10 t11:V) (n:Nat) (m0:Nat) (h:List V):Rv:=lp W 62 4 (cd 62 613963) (bk 4 (sk 62 1 32331 (bk 1 (sk 62 0 459 (lk 62 0 m0 75 (bk 0 (sk 62 0 15 (lv 62 n)))))))) ⟨[(0,t0),(1,t1),(2,t2),(3,t3),(9,t9),(10,t10),(11,t11)],h⟩
def Sj (t11:V) (k:V→Rv):Rv:=
 (AL .geq t11 (V.int .i64 1)).bind fun t69=>k t69
def Xg (t0 t3 t11:V) (h:List V) (k:V→List V→Rv):Rv:=
 (AP P 22 (V.weak t0) t11).bind fun t75=>(A8 h 45 t75).bind fun t76=>(AL .sub t11 (V.int .i64 1)).bind fun t79=>(AP P 22 (V.weak t0) t79).bind fun t80=>(A8 h 45 t80).bind fun t81=>BQ P Df W t3 [t76,t81] h fun t82 a1=>if V.noOwn t82=true then(AL .lss t82 (V.int .i64 0)).bind fun t83=>(un .not t83).bind fun t84=>k t84 a1 else none
def Xh (t0 t11:V) (h:List V) (k:List V→Rv):Rv:=
 (AL .sub t11 (V.int .i64 1)).bind fun t89=>(AL .sub t11 (V.int .i64 1)).bind fun t92=>(AP P 22 (V.weak t0) t92).bind fun t93=>(A8 h 45 t93).bind fun t94=>(AP P 22 (V.weak t0) t11).bind fun t97=>(A8 h 45 t97).bind fun t98=>(AP P 22 (V.weak t0) t11).bind fun t99=>(EY P h 45 t99 t94).bind fun a1=>(AP P 22 (V.weak t0) t89).bind fun t100=>(EY P a1 45 t100 t98).bind fun a2=>k a2
def Xi (t11:V) (k:V→Rv):Rv:=
 (AL .sub t11 (V.int .i64 1)).bind fun t71=>k t71
theorem QE (t0 t1 t2 t3 t9 t10 t11:V) (n:Nat) (m0:Nat) (h:List V):NW t0 t1 t2 t3 t9 t10 t11 n m0 h=
 Sj t11 fun a25=>
  V.ite a25
  (Xg t0 t3 t11 h fun a26 a27=>
  V.ite a26
  (Ie t2 t9 fun a28=>
  V.ite a28
  (Ig t9 fun a29=>
  He t0 t1 t2 t3 t9 t10 a29 n m0 a27)
  (Gg t10 fun a30=>
  EZ t0 t1 t2 t3 t9 a30 n a27))
  (Xh t0 t11 a27 fun a31=>
  Xi t11 fun a32=>
  NW t0 t1 t2 t3 t9 t10 a32 n m0 a31))
  (Ie t2 t9 fun a33=>
  V.ite a33
  (Ig t9 fun a34=>
  He t0 t1 t2 t3 t9 t10 a34 n m0 h)
  (Gg t10 fun a35=>
  EZ t0 t1 t2 t3 t9 a35 n h)):=
 Cm (by kernel_rfl)
theorem QF (t0 t1 t2 t3 t9 t10:V) (n:Nat) (m0:Nat) (h:List V):SQ t0 t1 t2 t3 t9 t10 n m0 h=
 Vx t0 t2 t3 t9 h fun a4 a5=>
  V.ite a4
  (AAw t9 fun a6=>
  SQ t0 t1 t2 t3 a6 t10 n m0 a5)
  (Vy t2 t9 fun a7=>
  V.ite a7
  (Vz fun a8=>
  AY n a5 a8)
  (V3 t1 t2 fun a9=>
  V.ite a9
  (SS fun a10=>
  AY n a5 a10)
  (SV t0 t9 a5 fun a11=>
  SX t1 t9 fun a12=>
  jn (fun a13=>Ie t2 t9 fun a14=>
  V.ite a14
  (Ig t9 fun a15=>
  He t0 t1 t2 t3 t9 t10 a15 n m0 a13)
  (Gg t10 fun a23=>
  EZ t0 t1 t2 t3 t9 a23 n a13))
  (fun(j0:List V→Rv)=>V.ite a12
  (Si t9 fun a24=>
  NW t0 t1 t2 t3 t9 t10 a24 n m0 a11)
  (j0 a11))))):=
 Cm (Aj<|Aj<|Az (fun K u36 h'=>K ⟨[(0,t0),(1,t1),(2,t2),(3,t3),(9,t9),(10,t10),(36,u36)],h'⟩) (funext fun a4=>funext fun a5=>Ae<|Bg (by kernel_rfl) (AE5<|AE6<|ADC<|Zt<|Ae<|Aj<|Aj<|Az (fun K u41=>K ⟨[(0,t0),(1,t1),(2,t2),(3,t3),(9,t9),(10,t10),(41,u41)],a5⟩) (funext fun a7=>Ae<|Bg (by kernel_rfl) (DC<|Ae<|Aj<|Aj<|Az (fun K u45=>K ⟨[(0,t0),(1,t1),(2,t2),(3,t3),(9,t9),(10,t10),(45,u45)],a5⟩) (funext fun a9=>Ae<|Bg (by kernel_rfl) (DC<|Ae<|Aj<|Az (fun K h'=>K ⟨[(0,t0),(1,t1),(2,t2),(3,t3),(9,t9),(10,t10)],h'⟩) (funext fun a11=>Ae<|Aj<|Aj<|Az (fun K u65=>K ⟨[(0,t0),(1,t1),(2,t2),(3,t3),(9,t9),(10,t10),(65,u65)],a11⟩) (funext fun a12=>Ae<|KY (fun K a13=>K ⟨[(0,t0),(1,t1),(2,t2),(3,t3),(9,t9),(10,t10)],a13⟩) (funext fun a13=>by kernel_rfl) (Bg (by kernel_rfl) (by kernel_rfl)))))))))))
def Xj (k:V→Rv):Rv:=
 k (V.bool false)
theorem QG (t0 t1 t2 t3 t9 t10:V) (n:Nat) (h:List V):EZ t0 t1 t2 t3 t9 t10 n h=
 Vw t10 fun a3=>
  V.ite a3
  (SQ t0 t1 t2 t3 t9 t10 n (List.length h) h)
  (Xj fun a36=>
  AY n h a36):=
 Cm (by kernel_rfl)
theorem AFW (t0 t1 t2 t3:V) (h:List V):Cl 62 [t0,t1,t2,t3] h=
 AAt (AAu t1 fun a1=>
  AAv fun a2=>
  EZ t0 t1 t2 t3 a1 a2 (List.length h) h):=
 Bh (by kernel_rfl)
def AAx (k:Rv):Rv:=
 k
def AAy (t0 t1 t3:V) (h:List V) (k:List V→Rv):Rv:=
 (AP P 22 (V.weak t0) t3).bind fun t19=>(A8 h 45 t19).bind fun t20=>(AP P 22 (V.weak t0) t1).bind fun t23=>(A8 h 45 t23).bind fun t24=>(AP P 22 (V.weak t0) t1).bind fun t25=>(EY P h 45 t25 t20).bind fun a1=>(AP P 22 (V.weak t0) t3).bind fun t26=>(EY P a1 45 t26 t24).bind fun a2=>k a2
def AAz (t1 t2:V) (k:V→V→Rv):Rv:=
 (AL .add t1 (V.int .i64 1)).bind fun t28=>(AL .sub t2 (V.int .i64 1)).bind fun t30=>k t28 t30
def NY (t0 t1 t4 t11 t12:V) (n:Nat) (h:List V):Rv:=lp W 63 0 (cd 63 71) (bk 0 (sk 63 0 31 (lv 63 n))) ⟨[(0,t0),(1,t1),(4,t4),(11,t11),(12,t12)],h⟩
def Sm (t0 t1 t4 t11 t12:V) (n:Nat) (m0:Nat) (h:List V):Rv:=lp W 63 2 (cd 63 1031) (bk 2 (sk 63 1 391 (bk 1 (lk 63 0 m0 71 (bk 0 (sk 63 0 31 (lv 63 n))))))) ⟨[(0,t0),(1,t1),(4,t4),(11,t11),(12,t12)],h⟩
def V4 (t0 t1 t4 t11 t12:V) (h:List V) (k:V→List V→Rv):Rv:=
 (AL .leq t11 t12).bind fun t33=>V.ite t33 ((AP P 22 (V.weak t0) t1).bind fun t38=>(A8 h 45 t38).bind fun t39=>(AP P 22 (V.weak t0) t11).bind fun t42=>(A8 h 45 t42).bind fun t43=>BQ P Df W t4 [t39,t43] h fun t44 a1=>if V.noOwn t44=true then(AL .lss t44 (V.int .i64 0)).bind fun t45=>(un .not t45).bind fun t46=>k t46 a1 else none) (k (V.bool false) h)
def AA0 (t11:V) (k:V→Rv):Rv:=
 (AL .add t11 (V.int .i64 1)).bind fun t49=>k t49
def NZ (t0 t1 t4 t11 t12:V) (n:Nat) (m0:Nat) (h:List V):Rv:=lp W 63 4 (cd 63 2183) (bk 4 (sk 63 1 903 (bk 1 (lk 63 0 m0 71 (bk 0 (sk 63 0 31 (lv 63 n))))))) ⟨[(0,t0),(1,t1),(4,t4),(11,t11),(12,t12)],h⟩
def V5 (t0 t1 t4 t11 t12:V) (h:List V) (k:V→List V→Rv):Rv:=
 (AL .leq t11 t12).bind fun t52=>V.ite t52 ((AP P 22 (V.weak t0) t1).bind fun t57=>(A8 h 45 t57).bind fun t58=>(AP P 22 (V.weak t0) t12).bind fun t61=>(A8 h 45 t61).bind fun t62=>BQ P Df W t4 [t58,t62] h fun t63 a1=>if V.noOwn t63=true then(AL .lss t63 (V.int .i64 0)).bind fun t64=>k t64 a1 else none) (k (V.bool false) h)
def AA1 (t12:V) (k:V→Rv):Rv:=
 (AL .sub t12 (V.int .i64 1)).bind fun t67=>k t67
def Sr (t11 t12:V) (k:V→Rv):Rv:=
 (AL .gtr t11 t12).bind fun t70=>k t70
def MZ (t11:V) (k:V→Rv):Rv:=
 k t11
def V6 (t0 t11 t12:V) (h:List V) (k:List V→Rv):Rv:=
 (AP P 22 (V.weak t0) t12).bind fun t77=>(A8 h 45 t77).bind fun t78=>(AP P 22 (V.weak t0) t11).bind fun t81=>(A8 h 45 t81).bind fun t82=>(AP P 22 (V.weak t0) t11).bind fun t83=>(EY P h 45 t83 t78).bind fun a1=>(AP P 22 (V.weak t0) t12).bind fun t84=>(EY P a1 45 t84 t82).bind fun a2=>k a2
def V7 (t11:V) (k:V→Rv):Rv:=
 (AL .add t11 (V.int .i64 1)).bind fun t86=>k t86
def Sv (t12:V) (k:V→Rv):Rv:=
 (AL .sub t12 (V.int .i64 1)).bind fun t88=>k t88
theorem QH (t0 t1 t4 t11 t12:V) (n:Nat) (m0:Nat) (h:List V):NZ t0 t1 t4 t11 t12 n m0 h=
 V5 t0 t1 t4 t11 t12 h fun a7 a8=>
  V.ite a7
  (AA1 t12 fun a9=>
  NZ t0 t1 t4 t11 a9 n m0 a8)
  (Sr t11 t12 fun a10=>
  V.ite a10
  (MZ t11 fun a11=>
  AY n a8 a11)
  (V6 t0 t11 t12 a8 fun a12=>
  V7 t11 fun a13=>
  Sv t12 fun a14=>
  NY t0 t1 t4 a13 a14 n a12)):=
 Cm (by kernel_rfl)
theorem QI (t0 t1 t4 t11 t12:V) (n:Nat) (m0:Nat) (h:List V):Sm t0 t1 t4 t11 t12 n m0 h=
 V4 t0 t1 t4 t11 t12 h fun a4 a5=>
  V.ite a4
  (AA0 t11 fun a6=>
  Sm t0 t1 t4 a6 t12 n m0 a5)
  (NZ t0 t1 t4 t11 t12 n m0 a5):=
 Cm (by kernel_rfl)
theorem QJ (t0 t1 t4 t11 t12:V) (n:Nat) (h:List V):NY t0 t1 t4 t11 t12 n h=
 Sm t0 t1 t4 t11 t12 n (List.length h) h:=
 Cm (by kernel_rfl)
theorem AFX (t0 t1 t2 t3 t4:V) (h:List V):Cl 63 [t0,t1,t2,t3,t4] h=
 AAx (AAy t0 t1 t3 h fun a1=>
  AAz t1 t2 fun a2 a3=>
  NY t0 t1 t4 a2 a3 (List.length h) a1):=
 Bh (by kernel_rfl)
def AA2 (k:Rv):Rv:=
 k
def AA3 (t0 t1 t3:V) (h:List V) (k:List V→Rv):Rv:=
 (AP P 22 (V.weak t0) t3).bind fun t20=>(A8 h 45 t20).bind fun t21=>(AP P 22 (V.weak t0) t1).bind fun t24=>(A8 h 45 t24).bind fun t25=>(AP P 22 (V.weak t0) t1).bind fun t26=>(EY P h 45 t26 t21).bind fun a1=>(AP P 22 (V.weak t0) t3).bind fun t27=>(EY P a1 45 t27 t25).bind fun a2=>k a2
def AA4 (t1 t2:V) (k:V→V→Rv):Rv:=
 (AL .add t1 (V.int .i64 1)).bind fun t29=>(AL .sub t2 (V.int .i64 1)).bind fun t31=>k t29 t31
def Sz (t0 t1 t4 t12 t13:V) (n:Nat) (h:List V):Rv:=lp W 64 0 (cd 64 71) (bk 0 (sk 64 0 31 (lv 64 n))) ⟨[(0,t0),(1,t1),(4,t4),(12,t12),(13,t13)],h⟩
def V8 (t0 t1 t4 t12 t13:V) (h:List V) (k:V→List V→Rv):Rv:=
 (AL .leq t12 t13).bind fun t34=>V.ite t34 ((AP P 22 (V.weak t0) t12).bind fun t39=>(A8 h 45 t39).bind fun t40=>(AP P 22 (V.weak t0) t1).bind fun t43=>(A8 h 45 t43).bind fun t44=>BQ P Df W t4 [t40,t44] h fun t45 a1=>if V.noOwn t45=true then(AL .lss t45 (V.int .i64 0)).bind fun t46=>k t46 a1 else none) (k (V.bool false) h)
def AA5 (t12:V) (k:V→Rv):Rv:=
 (AL .add t12 (V.int .i64 1)).bind fun t49=>k t49
def Na (t0 t1 t4 t12 t13:V) (n:Nat) (h:List V):Rv:=lp W 64 2 (cd 64 143) (bk 2 (sk 64 0 63 (lv 64 n))) ⟨[(0,t0),(1,t1),(4,t4),(12,t12),(13,t13)],h⟩
def V9 (t0 t1 t4 t12 t13:V) (h:List V) (k:V→List V→Rv):Rv:=
 (AL .leq t12 t13).bind fun t52=>V.ite t52 ((AP P 22 (V.weak t0) t13).bind fun t57=>(A8 h 45 t57).bind fun t58=>(AP P 22 (V.weak t0) t1).bind fun t61=>(A8 h 45 t61).bind fun t62=>BQ P Df W t4 [t58,t62] h fun t63 a1=>if V.noOwn t63=true then(AL .lss t63 (V.int .i64 0)).bind fun t64=>(un .not t64).bind fun t65=>k t65 a1 else none) (k (V.bool false) h)
def AA6 (t13:V) (k:V→Rv):Rv:=
 (AL .sub t13 (V.int .i64 1)).bind fun t68=>k t68
def S9 (t12 t13:V) (k:V→Rv):Rv:=
 (AL .gtr t12 t13).bind fun t71=>k t71
def WA (t0 t1 t13:V) (h:List V) (k:List V→Rv):Rv:=
 (AP P 22 (V.weak t0) t1).bind fun t78=>(A8 h 45 t78).bind fun t79=>(AP P 22 (V.weak t0) t13).bind fun t82=>(A8 h 45 t82).bind fun t83=>(AP P 22 (V.weak t0) t13).bind fun t84=>(EY P h 45 t84 t79).bind fun a1=>(AP P 22 (V.weak t0) t1).bind fun t85=>(EY P a1 45 t85 t83).bind fun a2=>k a2
def WB (t13:V) (k:V→V→Rv):Rv:=
 k t13 (V.bool true)
def TA (t0 t12 t13:V) (h:List V) (k:List V→Rv):Rv:=
 (AP P 22 (V.weak t0) t13).bind fun t93=>(A8 h 45 t93).bind fun t94=>(AP P 22 (V.weak t0) t12).bind fun t97=>(A8 h 45 t97).bind fun t98=>(AP P 22 (V.weak t0) t12).bind fun t99=>(EY P h 45 t99 t94).bind fun a1=>(AP P 22 (V.weak t0) t13).bind fun t100=>(EY P a1 45 t100 t98).bind fun a2=>k a2
def TB (t12:V) (k:V→Rv):Rv:=
 (AL .add t12 (V.int .i64 1)).bind fun t102=>k t102
def TD (t13:V) (k:V→Rv):Rv:=
 (AL .sub t13 (V.int .i64 1)).bind fun t104=>k t104
def Hf (t0 t1 t4 t12 t13:V) (n:Nat) (h:List V):Rv:=lp W 64 4 (cd 64 4607) (bk 4 (sk 64 0 2047 (lv 64 n))) ⟨[(0,t0),(1,t1),(4,t4),(12,t12),(13,t13)],h⟩
def TF (t0 t1 t4 t12 t13:V) (n:Nat) (m4:Nat) (h:List V):Rv:=lp W 64 6 (cd 64 66047) (bk 6 (sk 64 5 25087 (bk 5 (lk 64 4 m4 4607 (bk 4 (sk 64 0 2047 (lv 64 n))))))) ⟨[(0,t0),(1,t1),(4,t4),(12,t12),(13,t13)],h⟩
def TG (t0 t1 t4 t12 t13:V) (h:List V) (k:V→List V→Rv):Rv:=
 (AL .leq t12 t13).bind fun t107=>V.ite t107 ((AP P 22 (V.weak t0) t12).bind fun t112=>(A8 h 45 t112).bind fun t113=>(AP P 22 (V.weak t0) t1).bind fun t116=>(A8 h 45 t116).bind fun t117=>BQ P Df W t4 [t113,t117] h fun t118 a1=>if V.noOwn t118=true then(AL .lss t118 (V.int .i64 0)).bind fun t119=>k t119 a1 else none) (k (V.bool false) h)
def Xk (t12:V) (k:V→Rv):Rv:=
 (AL .add t12 (V.int .i64 1)).bind fun t122=>k t122
def Nb (t0 t1 t4 t12 t13:V) (n:Nat) (m4:Nat) (h:List V):Rv:=lp W 64 8 (cd 64 139775) (bk 8 (sk 64 5 57855 (bk 5 (lk 64 4 m4 4607 (bk 4 (sk 64 0 2047 (lv 64 n))))))) ⟨[(0,t0),(1,t1),(4,t4),(12,t12),(13,t13)],h⟩
def TI (t0 t1 t4 t12 t13:V) (h:List V) (k:V→List V→Rv):Rv:=
 (AL .leq t12 t13).bind fun t125=>V.ite t125 ((AP P 22 (V.weak t0) t13).bind fun t130=>(A8 h 45 t130).bind fun t131=>(AP P 22 (V.weak t0) t1).bind fun t134=>(A8 h 45 t134).bind fun t135=>BQ P Df W t4 [t131,t135] h fun t136 a1=>if V.noOwn t136=true then(AL .lss t136 (V.int .i64 0)).bind fun t137=>(un .not t137).bind fun t138=>k t138 a1 else none) (k (V.bool false) h)
def Xl (t13:V) (k:V→Rv):Rv:=
 (AL .sub t13 (V.int .i64 1)).bind fun t141=>k t141
def Mc (t12 t13:V) (k:V→Rv):Rv:=
 (AL .gtr t12 t13).bind fun t144=>k t144
def TJ (t0 t1 t13:V) (h:List V) (k:List V→Rv):Rv:=
 (AP P 22 (V.weak t0) t1).bind fun t169=>(A8 h 45 t169).bind fun t170=>(AP P 22 (V.weak t0) t13).bind fun t173=>(A8 h 45 t173).bind fun t174=>(AP P 22 (V.weak t0) t13).bind fun t175=>(EY P h 45 t175 t170).bind fun a1=>(AP P 22 (V.weak t0) t1).bind fun t176=>(EY P a1 45 t176 t174).bind fun a2=>k a2
def TL (t13:V) (k:V→V→Rv):Rv:=
 k t13 (V.bool false)
def TM (t0 t12 t13:V) (h:List V) (k:List V→Rv):Rv:=
 (AP P 22 (V.weak t0) t13).bind fun t151=>(A8 h 45 t151).bind fun t152=>(AP P 22 (V.weak t0) t12).bind fun t155=>(A8 h 45 t155).bind fun t156=>(AP P 22 (V.weak t0) t12).bind fun t157=>(EY P h 45 t157 t152).bind fun a1=>(AP P 22 (V.weak t0) t13).bind fun t158=>(EY P a1 45 t158 t156).bind fun a2=>k a2
def TN (t12:V) (k:V→Rv):Rv:=
 (AL .add t12 (V.int .i64 1)).bind fun t160=>k t160
def TP (t13:V) (k:V→Rv):Rv:=
 (AL .sub t13 (V.int .i64 1)).bind fun t162=>k t162
theorem QK (t0 t1 t4 t12 t13:V) (n:Nat) (m4:Nat) (h:List V):Nb t0 t1 t4 t12 t13 n m4 h=
 TI t0 t1 t4 t12 t13 h fun a20 a21=>
  V.ite a20
  (Xl t13 fun a22=>
  Nb t0 t1 t4 t12 a22 n m4 a21)
  (Mc t12 t13 fun a23=>
  V.ite a23
  (TJ t0 t1 t13 a21 fun a24=>
  TL t13 fun a25 a26=>
  if(List.all [a26,a25] V.okE)=true then AY n a24 (V.tup [a25,a26])else none)
  (TM t0 t12 t13 a21 fun a27=>
  TN t12 fun a28=>
  TP t13 fun a29=>
  Hf t0 t1 t4 a28 a29 n a27)):=
 Cm (by kernel_rfl)
theorem QL (t0 t1 t4 t12 t13:V) (n:Nat) (m4:Nat) (h:List V):TF t0 t1 t4 t12 t13 n m4 h=
 TG t0 t1 t4 t12 t13 h fun a17 a18=>
  V.ite a17
  (Xk t12 fun a19=>
  TF t0 t1 t4 a19 t13 n m4 a18)
  (Nb t0 t1 t4 t12 t13 n m4 a18):=
 Cm (by kernel_rfl)
theorem QM (t0 t1 t4 t12 t13:V) (n:Nat) (h:List V):Hf t0 t1 t4 t12 t13 n h=
 TF t0 t1 t4 t12 t13 n (List.length h) h:=
 Cm (by kernel_rfl)
theorem QN (t0 t1 t4 t12 t13:V) (n:Nat) (h:List V):Na t0 t1 t4 t12 t13 n h=
 V9 t0 t1 t4 t12 t13 h fun a7 a8=>
  V.ite a7
  (AA6 t13 fun a9=>
  Na t0 t1 t4 t12 a9 n a8)
  (S9 t12 t13 fun a10=>
  V.ite a10
  (WA t0 t1 t13 a8 fun a11=>
  WB t13 fun a12 a13=>
  if(List.all [a13,a12] V.okE)=true then AY n a11 (V.tup [a12,a13])else none)
  (TA t0 t12 t13 a8 fun a14=>
  TB t12 fun a15=>
  TD t13 fun a16=>
  Hf t0 t1 t4 a15 a16 n a14)):=
 Cm (by kernel_rfl)
theorem QO (t0 t1 t4 t12 t13:V) (n:Nat) (h:List V):Sz t0 t1 t4 t12 t13 n h=
 V8 t0 t1 t4 t12 t13 h fun a4 a5=>
  V.ite a4
  (AA5 t12 fun a6=>
  Sz t0 t1 t4 a6 t13 n a5)
  (Na t0 t1 t4 t12 t13 n a5):=
 Cm (by kernel_rfl)
theorem AFY (t0 t1 t2 t3 t4:V) (h:List V):Cl 64 [t0,t1,t2,t3,t4] h=
 AA2 (AA3 t0 t1 t3 h fun a1=>
  AA4 t1 t2 fun a2 a3=>
  Sz t0 t1 t4 a2 a3 (List.length h) a1):=
 Bh (by kernel_rfl)
def AA7 (k:V→Rv):Rv:=
 k (V.int .i64 0)
def AA8 (t0:V) (k:V→Rv):Rv:=
 (AL .geq t0 (V.int .u64 4294967296)).bind fun t4=>k t4
def WC (t0:V) (k:V→Rv):Rv:=
 (AL .geq t0 (V.int .u64 65536)).bind fun t8=>k t8
def TQ (t0:V) (k:V→Rv):Rv:=
 (AL .geq t0 (V.int .u64 256)).bind fun t14=>k t14
def Jy (t0 t2:V) (k:V→Rv):Rv:=
 (conv P [] 92 5 t0).bind fun t21=>(KW P 9 (V.str [0,1,2,2,3,3,3,3,4,4,4,4,4,4,4,4,5,5,5,5,5,5,5,5,5,5,5,5,5,5,5,5,6,6,6,6,6,6,6,6,6,6,6,6,6,6,6,6,6,6,6,6,6,6,6,6,6,6,6,6,6,6,6,6,7,7,7,7,7,7,7,7,7,7,7,7,7,7,7,7,7,7,7,7,7,7,7,7,7,7,7,7,7,7,7,7,7,7,7,7,7,7,7,7,7,7,7,7,7,7,7,7,7,7,7,7,7,7,7,7,7,7,7,7,7,7,7,7,8,8,8,8,8,8,8,8,8,8,8,8,8,8,8,8,8,8,8,8,8,8,8,8,8,8,8,8,8,8,8,8,8,8,8,8,8,8,8,8,8,8,8,8,8,8,8,8,8,8,8,8,8,8,8,8,8,8,8,8,8,8,8,8,8,8,8,8,8,8,8,8,8,8,8,8,8,8,8,8,8,8,8,8,8,8,8,8,8,8,8,8,8,8,8,8,8,8,8,8,8,8,8,8,8,8,8,8,8,8,8,8,8,8,8,8,8,8,8,8,8,8,8,8,8,8,8,8]) t21).bind fun t22=>(conv P [] 5 3 t22).bind fun t23=>(AL .add t2 t23).bind fun t24=>k t24
def TR (t0:V) (k:V→Rv):Rv:=
 (AL .shr t0 (V.int .u64 8)).bind fun t16=>k t16
def TS (t2:V) (k:V→Rv):Rv:=
 (AL .add t2 (V.int .i64 8)).bind fun t18=>k t18
def WE (t0:V) (k:V→Rv):Rv:=
 (AL .shr t0 (V.int .u64 16)).bind fun t10=>k t10
def WH (t2:V) (k:V→Rv):Rv:=
 (AL .add t2 (V.int .i64 16)).bind fun t12=>k t12
def AA9 (t0:V) (k:V→Rv):Rv:=
 (AL .shr t0 (V.int .u64 32)).bind fun t6=>k t6
def ABA (k:V→Rv):Rv:=
 k (V.int .i64 32)
theorem AFZ (t0:V):Cl 66 [t0] []=
 AA7 fun a1=>
  AA8 t0 fun a2=>
  jn (fun a3 a4=>WC a3 fun a5=>
  jn (fun a6 a7=>TQ a6 fun a8=>
  jn (fun a9 a10=>Jy a9 a10 fun a11=>
  AY 0 [] a11)
  (fun(j2:V→V→Rv)=>V.ite a8
  (TR a6 fun a12=>
  TS a7 fun a13=>
  j2 a12 a13)
  (j2 a6 a7)))
  (fun(j1:V→V→Rv)=>V.ite a5
  (WE a3 fun a14=>
  WH a4 fun a15=>
  j1 a14 a15)
  (j1 a3 a4)))
  (fun(j0:V→V→Rv)=>V.ite a2
  (AA9 t0 fun a16=>
  ABA fun a17=>
  j0 a16 a17)
  (j0 t0 a1)):=
 Bh (Aj<|Az (fun K u2=>K ⟨[(0,t0),(2,u2)],[]⟩) (funext fun a1=>Ae<|Aj<|Aj<|Az (fun K u4=>K ⟨[(0,t0),(2,a1),(4,u4)],[]⟩) (funext fun a2=>Ae<|KY (fun K a3 a4=>K ⟨[(0,a3),(2,a4)],[]⟩) (funext fun a3=>funext fun a4=>Ae<|Aj<|Aj<|Az (fun K u8=>K ⟨[(0,a3),(2,a4),(8,u8)],[]⟩) (funext fun a5=>Ae<|KY (fun K a6 a7=>K ⟨[(0,a6),(2,a7)],[]⟩) (funext fun a6=>funext fun a7=>Ae<|Aj<|Aj<|Az (fun K u14=>K ⟨[(0,a6),(2,a7),(14,u14)],[]⟩) (funext fun a8=>Ae<|KY (fun K a9 a10=>K ⟨[(0,a9),(2,a10)],[]⟩) (funext fun a9=>funext fun a10=>by kernel_rfl) (Bg (Aj<|Az (fun K u0=>K ⟨[(0,u0),(2,a7)],[]⟩) (funext fun a12=>Ae<|Az (fun K u2=>K ⟨[(0,a12),(2,u2)],[]⟩) (funext fun a13=>rfl))) (DC<|PI)))) (Bg (Aj<|Az (fun K u0=>K ⟨[(0,u0),(2,a4)],[]⟩) (funext fun a14=>Ae<|Az (fun K u2=>K ⟨[(0,a14),(2,u2)],[]⟩) (funext fun a15=>rfl))) (DC<|PI)))) (Bg (Aj<|Az (fun K u0=>K ⟨[(0,u0)],[]⟩) (funext fun a16=>Ae<|Az (fun K u2=>K ⟨[(0,a16),(2,u2)],[]⟩) (funext fun a17=>rfl))) (DC<|PI)))))
theorem AFa (t0 t1:V):Cl 68 [t0,t1] []=
 Zb P 1 89 [t0,t1] [] fun a1 a2=>AY 0 a2 a1:=
 Bh (by kernel_rfl)
def AFb (t0 t1 t5:V) (h:List V):Rv:=lp W 73 0 (cd 73 79) (bk 0 (lv 73 0)) ⟨[(0,t0),(1,t1),(5,t5)],h⟩
theorem AFc (t0 t1:V):Cl 73 [t0,t1] []=
 (MW t1).bind fun a1=>(AL .eql a1 (V.int .i64 0)).bind fun a2=>V.ite a2
  ((Cl 91 (AZ [] [t0]) []).bind fun a3=>(AL .add a3.1 (V.int .i64 1)).bind fun a4=>AY 0 [] a4)
  ((MW t1).bind fun a5=>(AL .eql a5 (V.int .i64 1)).bind fun a6=>V.ite a6
  ((Pm t1 (V.int .i64 0)).bind fun a7=>Zb P 2 93 [t0,a7] [] fun a8 a9=>AY 0 a9 a8)
  (AFb t0 t1 (V.int .i64 0) [])):=
 Bh (by kernel_rfl)
theorem AFd (t0 t1:V):Cl 74 [t0,t1] []=
 (Cl 53 (AZ [] [t0,t1]) []).bind fun a1=>AY 0 [] a1.1:=
 Bh (by kernel_rfl)
def ABB (t1:V) (k:V→Rv):Rv:=
 k t1
def Nc (t0 t2 t3 t4 t10:V) (n:Nat) (h:List V):Rv:=lp W 80 0 (cd 80 9) (bk 0 (lv 80 n)) ⟨[(0,t0),(2,t2),(3,t3),(4,t4),(10,t10)],h⟩
def WI (t10:V) (k:V→Rv):Rv:=
 (AL .mul (V.int .i64 2) t10).bind fun t14=>(AL .add t14 (V.int .i64 1)).bind fun t15=>k t15
def WJ (t2 t11:V) (k:V→Rv):Rv:=
 (AL .geq t11 t2).bind fun t18=>k t18
def ABC (t0 t2 t3 t4 t11:V) (h:List V) (k:V→List V→Rv):Rv:=
 (AL .add t11 (V.int .i64 1)).bind fun t20=>(AL .lss t20 t2).bind fun t22=>V.ite t22 ((AL .add t3 t11).bind fun t28=>(AP P 22 (V.weak t0) t28).bind fun t29=>(A8 h 45 t29).bind fun t30=>(AL .add t3 t11).bind fun t34=>(AL .add t34 (V.int .i64 1)).bind fun t35=>(AP P 22 (V.weak t0) t35).bind fun t36=>(A8 h 45 t36).bind fun t37=>BQ P Df W t4 [t30,t37] h fun t38 a1=>if V.noOwn t38=true then(AL .lss t38 (V.int .i64 0)).bind fun t39=>k t39 a1 else none) (k (V.bool false) h)
def WL (t0 t3 t4 t10 t11:V) (h:List V) (k:V→List V→Rv):Rv:=
 (AL .add t3 t10).bind fun t47=>(AP P 22 (V.weak t0) t47).bind fun t48=>(A8 h 45 t48).bind fun t49=>(AL .add t3 t11).bind fun t53=>(AP P 22 (V.weak t0) t53).bind fun t54=>(A8 h 45 t54).bind fun t55=>BQ P Df W t4 [t49,t55] h fun t56 a1=>if V.noOwn t56=true then(AL .lss t56 (V.int .i64 0)).bind fun t57=>(un .not t57).bind fun t58=>k t58 a1 else none
def WM (t0 t3 t10 t11:V) (h:List V) (k:List V→Rv):Rv:=
 (AL .add t3 t10).bind fun t62=>(AL .add t3 t11).bind fun t66=>(AL .add t3 t11).bind fun t70=>(AP P 22 (V.weak t0) t70).bind fun t71=>(A8 h 45 t71).bind fun t72=>(AL .add t3 t10).bind fun t76=>(AP P 22 (V.weak t0) t76).bind fun t77=>(A8 h 45 t77).bind fun t78=>(AP P 22 (V.weak t0) t62).bind fun t79=>(EY P h 45 t79 t72).bind fun a1=>(AP P 22 (V.weak t0) t66).bind fun t80=>(EY P a1 45 t80 t78).bind fun a2=>k a2
def WN (t11:V) (k:V→Rv):Rv:=
 k t11
def ABD (t11:V) (k:V→Rv):Rv:=
 (AL .add t11 (V.int .i64 1)).bind fun t42=>k t42
theorem QR (t0 t2 t3 t4 t10:V) (n:Nat) (h:List V):Nc t0 t2 t3 t4 t10 n h=
 WI t10 fun a2=>
  WJ t2 a2 fun a3=>
  V.ite a3
  (if(List.all [] V.okE)=true then AY n h (V.tup [])else none)
  (ABC t0 t2 t3 t4 a2 h fun a4 a5=>
  jn (fun a6=>WL t0 t3 t4 t10 a6 a5 fun a7 a8=>
  V.ite a7
  (if(List.all [] V.okE)=true then AY n a8 (V.tup [])else none)
  (WM t0 t3 t10 a6 a8 fun a9=>
  WN a6 fun a10=>
  Nc t0 t2 t3 t4 a10 n a9))
  (fun(j0:V→Rv)=>V.ite a4
  (ABD a2 fun a11=>
  j0 a11)
  (j0 a2))):=
 Cm (MV<|Aj<|Az (fun K u11=>K ⟨[(0,t0),(2,t2),(3,t3),(4,t4),(10,t10),(11,u11)],h⟩) (funext fun a2=>Ae<|Aj<|Aj<|Az (fun K u18=>K ⟨[(0,t0),(2,t2),(3,t3),(4,t4),(10,t10),(11,a2),(18,u18)],h⟩) (funext fun a3=>Ae<|Bg (by kernel_rfl) (DC<|Ae<|Aj<|Aj<|Az (fun K u40 h'=>K ⟨[(0,t0),(2,t2),(3,t3),(4,t4),(10,t10),(11,a2),(40,u40)],h'⟩) (funext fun a4=>funext fun a5=>Ae<|KY (fun K a6=>K ⟨[(0,t0),(2,t2),(3,t3),(4,t4),(10,t10),(11,a6)],a5⟩) (funext fun a6=>by kernel_rfl) (Bg (by kernel_rfl) (by kernel_rfl)))))))
theorem AFe (t0 t1 t2 t3 t4:V) (h:List V):Cl 80 [t0,t1,t2,t3,t4] h=
 ABB t1 fun a1=>
  Nc t0 t2 t3 t4 a1 (List.length h) h:=
 Bh (by kernel_rfl)
def ABE (k:Rv):Rv:=
 k
def ABF (t0:V) (k:V→Rv):Rv:=
 (conv P [] 3 77 t0).bind fun t4=>(Cl 51 (AZ [] [t4]) []).bind fun r=>(AL .shl (V.int .u64 1) r.1).bind fun t6=>k t6
theorem AFf (t0:V):Cl 81 [t0] []=
 ABE (ABF t0 fun a1=>
  AY 0 [] a1):=
 Bh (by kernel_rfl)
def ABG (k:Rv):Rv:=
 k
def ABH (t0:V) (h:List V) (k:List V→Rv):Rv:=
 (CP t0).bind fun t4=>(A8 h 103 t4).bind fun t5=>(CP t0).bind fun t7=>(A8 h 103 t7).bind fun t8=>(AL .shl t8 (V.int .u64 13)).bind fun t9=>(AL .xor t5 t9).bind fun t10=>(CP t0).bind fun t11=>(EY P h 103 t11 t10).bind fun a1=>k a1
def ABJ (t0:V) (h:List V) (k:List V→Rv):Rv:=
 (CP t0).bind fun t13=>(A8 h 103 t13).bind fun t14=>(CP t0).bind fun t16=>(A8 h 103 t16).bind fun t17=>(AL .shr t17 (V.int .u64 7)).bind fun t18=>(AL .xor t14 t18).bind fun t19=>(CP t0).bind fun t20=>(EY P h 103 t20 t19).bind fun a1=>k a1
def ABK (t0:V) (h:List V) (k:List V→Rv):Rv:=
 (CP t0).bind fun t22=>(A8 h 103 t22).bind fun t23=>(CP t0).bind fun t25=>(A8 h 103 t25).bind fun t26=>(AL .shl t26 (V.int .u64 17)).bind fun t27=>(AL .xor t23 t27).bind fun t28=>(CP t0).bind fun t29=>(EY P h 103 t29 t28).bind fun a1=>k a1
def ABL (t0:V) (h:List V) (k:V→Rv):Rv:=
 (CP t0).bind fun t31=>(A8 h 103 t31).bind fun t32=>k t32
theorem AFg (t0:V) (h:List V):Cl 82 [t0] h=
 ABG (ABH t0 h fun a1=>
  ABJ t0 a1 fun a2=>
  ABK t0 a2 fun a3=>
  ABL t0 a3 fun a4=>
  AY (List.length h) a3 a4):=
 Bh (by kernel_rfl)
def ABM (k:Rv):Rv:=
 k
def ABN (t0 t1 t2 t3:V) (h:List V) (k:V→List V→Rv):Rv:=
 (AL .sub t1 (V.int .i64 1)).bind fun t11=>(AL .add t1 (V.int .i64 1)).bind fun t14=>(Cl 84 (Ac [t0,t11,t1,t14,t2,t3]) h).bind fun r=>k r.1 r.2
theorem AFh (t0 t1 t2 t3:V) (h:List V):Cl 83 [t0,t1,t2,t3] h=
 ABM (ABN t0 t1 t2 t3 h fun a1 a2=>
  AY (List.length h) a2 a1):=
 Bh (by kernel_rfl)
def ABO (k:Rv):Rv:=
 k
def ABP (t0 t1 t2 t4 t5:V) (h:List V) (k:V→V→List V→Rv):Rv:=
 (Cl 97 (Ac [(V.weak t0),t1,t2,t4,t5]) h).bind fun r=>(ext r.1 0).bind fun t20=>(ext r.1 1).bind fun t21=>k t20 t21 r.2
def ABQ (t0 t2 t3 t4 t5:V) (h:List V) (k:V→List V→Rv):Rv:=
 (Cl 97 (Ac [(V.weak t0),t2,t3,t4,t5]) h).bind fun r=>(ext r.1 0).bind fun t29=>(ext r.1 1).bind fun t30=>k t29 r.2
def ABR (t0 t1 t2 t4 t5:V) (h:List V) (k:V→List V→Rv):Rv:=
 (Cl 97 (Ac [t0,t1,t2,t4,t5]) h).bind fun r=>(ext r.1 0).bind fun t38=>(ext r.1 1).bind fun t39=>k t39 r.2
def ABS (t2:V) (k:V→Rv):Rv:=
 k t2
theorem AFi (t0 t1 t2 t3 t4 t5:V) (h:List V):Cl 84 [t0,t1,t2,t3,t4,t5] h=
 ABO (ABP t0 t1 t2 t4 t5 h fun a1 a2 a3=>
  ABQ t0 a2 t3 t4 t5 a3 fun a4 a5=>
  ABR t0 a1 a4 t4 t5 a5 fun a6 a7=>
  ABS a6 fun a8=>
  AY (List.length h) a7 a8):=
 Bh (by kernel_rfl)
def ABT (k:Rv):Rv:=
 k
def ABU (t0 t1 t2 t4:V) (h:List V) (k:V→List V→Rv):Rv:=
 (AP P 22 (V.weak t0) t2).bind fun t15=>(A8 h 45 t15).bind fun t16=>(AP P 22 (V.weak t0) t1).bind fun t19=>(A8 h 45 t19).bind fun t20=>BQ P Df W t4 [t16,t20] h fun t21 a1=>if V.noOwn t21=true then(AL .lss t21 (V.int .i64 0)).bind fun t22=>k t22 a1 else none
def ABV (t3:V) (h:List V) (k:List V→Rv):Rv:=
 (CP t3).bind fun t24=>(A8 h 3 t24).bind fun t25=>(AL .add t25 (V.int .i64 1)).bind fun t26=>(CP t3).bind fun t27=>(EY P h 3 t27 t26).bind fun a1=>k a1
def ABW (t1 t2:V) (k:V→V→Rv):Rv:=
 k t2 t1
def ABX (t1 t2:V) (k:V→V→Rv):Rv:=
 k t1 t2
theorem AFj (t0 t1 t2 t3 t4:V) (h:List V):Cl 97 [t0,t1,t2,t3,t4] h=
 ABT (ABU t0 t1 t2 t4 h fun a1 a2=>
  V.ite a1
  (ABV t3 a2 fun a3=>
  ABW t1 t2 fun a4 a5=>
  if(List.all [a5,a4] V.okE)=true then AY (List.length h) a3 (V.tup [a4,a5])else none)
  (ABX t1 t2 fun a6 a7=>
  if(List.all [a7,a6] V.okE)=true then AY (List.length h) a2 (V.tup [a6,a7])else none)):=
 Bh (by kernel_rfl)
end
end Go.Proofs.YtaghnpjlhmgioaaDoor
