/-
  Part of the proof of a statement about the given program: an abstract machine over its code, the simulation, its functions' equations, what they compute.
-/
import Derived.Test.YtiegkempfolgcaaGreatDoorMg4
set_option linter.unusedVariables false
set_option linter.unusedSimpArgs false
set_option linter.unusedSectionVars false
set_option maxRecDepth 100000
noncomputable section
namespace Go.Proofs.YtiegkempfolgcaaGreatDoor
section
open Go AM
def Sz (t2 t3 t4 t5 t6 t11 t12 t13 t14 t15:V) (h:List V):Rv:=lp W 6 0 (cd 6 607) (bk 0 (sk 6 0 127 (lv 6 0))) ⟨[(2,t2),(3,t3),(4,t4),(5,t5),(6,t6),(11,t11),(12,t12),(13,t13),(14,t14),(15,t15)],h⟩
def Wu (t2 t3 t4 t5 t6 t11 t12 t13 t14 t15 t16 t18 t19:V) (m0:Nat) (h:List V):Rv:=lp W 6 2 (cd 6 1241695) (bk 2 (sk 6 1 258655 (bk 1 (sk 6 0 3679 (lk 6 0 m0 607 (bk 0 (sk 6 0 127 (lv 6 0)))))))) ⟨[(2,t2),(3,t3),(4,t4),(5,t5),(6,t6),(11,t11),(12,t12),(13,t13),(14,t14),(15,t15),(16,t16),(18,t18),(19,t19)],h⟩
theorem Wv (t2 t3 t4 t5 t6 t11 t12 t13 t14 t15 t16 t18 t19:V) (m0:Nat) (h:List V):Wu t2 t3 t4 t5 t6 t11 t12 t13 t14 t15 t16 t18 t19 m0 h=
 (AO .lss t19 t2).bind fun a43=>V.ite a43
  (jn (fun a44=>
 V.ite a44
  (AQ 0 h (V.bool false))
  (jn (fun a45=>
 V.ite a45
  ((AO .add t18 (V.int .i64 1)).bind fun a46=>(AO .add t19 (V.int .i64 1)).bind fun a47=>Wu t2 t3 t4 t5 t6 t11 t12 t13 t14 t15 t16 a46 a47 m0 h)
  ((AO .add t19 (V.int .i64 1)).bind fun a48=>Wu t2 t3 t4 t5 t6 t11 t12 t13 t14 t15 t16 t18 a48 m0 h)) (fun(a49:V→Rv)=>(fA 33 28 1 t16).bind fun a50=>(BL h 28 a50).bind fun a51=>(ET 4 a51 t19).bind fun a52=>(AY h 4 a52).bind fun a53=>V.ite a53 ((fA 33 28 1 t14).bind fun a54=>(BL h 28 a54).bind fun a55=>(ET 4 a55 t19).bind fun a56=>(AY h 4 a56).bind fun a57=>(un .not a57).bind fun a58=>a49 a58) (a49 (V.bool false))))) (fun(a59:V→Rv)=>(fA 33 28 1 t14).bind fun a60=>(BL h 28 a60).bind fun a61=>(ET 4 a61 t19).bind fun a62=>(AY h 4 a62).bind fun a63=>V.ite a63 ((fA 33 28 1 t16).bind fun a64=>(BL h 28 a64).bind fun a65=>(ET 4 a65 t19).bind fun a66=>(AY h 4 a66).bind fun a67=>(un .not a67).bind fun a68=>a59 a68) (a59 (V.bool false))))
  (jn (fun a69=>
 V.ite a69
  (AQ 0 h (V.bool false))
  ((BL h 33 t16).bind fun a70=>(CJ (BI 32) 33 h t14 a70).bind fun a71=>(AO .add t15 (V.int .i64 1)).bind fun a72=>if Ac m0 [t2,t3,t4,t5,t6,t11,t12,t13,t14,a72]=true then Sz t2 t3 t4 t5 t6 t11 t12 t13 t14 a72 (List.take m0 a71)else none)) (fun(a73:V→Rv)=>(AO .gtr t18 (V.int .i64 1)).bind fun a74=>V.ite a74 (a73 (V.bool true)) ((AO .eql t18 (V.int .i64 1)).bind fun a75=>V.ite a75 ((fA 33 3 0 t16).bind fun a76=>(AY h 3 a76).bind fun a77=>(AO .neq a77 (V.int .i64 0)).bind fun a78=>V.ite a78 (a73 (V.bool true)) ((AO .eql t18 (V.int .i64 0)).bind fun a79=>V.ite a79 ((fA 33 3 0 t16).bind fun a80=>(AY h 3 a80).bind fun a81=>(fA 33 3 0 t14).bind fun a82=>(AY h 3 a82).bind fun a83=>(AO .add a83 (V.int .i64 1)).bind fun a84=>(AO .neq a81 a84).bind fun a85=>a73 a85) (a73 (V.bool false)))) ((AO .eql t18 (V.int .i64 0)).bind fun a86=>V.ite a86 ((fA 33 3 0 t16).bind fun a87=>(AY h 3 a87).bind fun a88=>(fA 33 3 0 t14).bind fun a89=>(AY h 3 a89).bind fun a90=>(AO .add a90 (V.int .i64 1)).bind fun a91=>(AO .neq a88 a91).bind fun a92=>a73 a92) (a73 (V.bool false)))))):=
 Bz (by kernel_rfl)
theorem Wx (t2 t3 t4 t5 t6 t11 t12 t13 t14 t15:V) (h:List V):Sz t2 t3 t4 t5 t6 t11 t12 t13 t14 t15 h=
 (AO .lss t15 t12).bind fun a28=>V.ite a28
  ((EU (V.weak t3)).bind fun a29=>(AO .geq t15 a29).bind fun a30=>V.ite a30
  (AQ 0 h (V.bool false))
  ((BL h 24 t5).bind fun a31=>if DY true [a31]=true then(Cl 11 (AA h [a31]) []).bind fun a32=>(AY h 26 t6).bind fun a33=>(BL h 33 t14).bind fun a34=>if DY true [a34]=true then(Cl 18 (AA h [a34]) []).bind fun a35=>(ET 9 (V.weak t3) t15).bind fun a36=>(AY h 9 a36).bind fun a37=>if DY true [a32.1,a33,a35.1,a37]=true then(Cl 23 (AA h [a32.1,a33,a35.1,a37]) []).bind fun a38=>(Fz a38.1 0).bind fun a39=>(ext a38.1 1).bind fun a40=>(CJ (BI 32) 33 (h++[(V.agg 32 [(V.int .i64 0),(V.lst 4 .nil []),(V.lst 55 .nil []),(V.lst 58 .nil []),(V.lst 108 .nil [])])]) (V.ref (List.length h) [] 33) a39).bind fun a41=>(AO .neq a40 (V.int .i64 0)).bind fun a42=>V.ite a42
  (AQ 0 a41 (V.bool false))
  (Wu t2 t3 t4 t5 t6 t11 t12 t13 t14 t15 (V.ref (List.length h) [] 33) (V.int .i64 0) (V.int .i64 0) (List.length h) a41)else none else none else none))
  (jn (fun a93=>
 V.ite a93
  (AQ 0 h (V.bool false))
  ((EU (V.weak t3)).bind fun a94=>(AO .lss t12 a94).bind fun a95=>jn (fun a96=>(WY t4 (V.int .i64 0)).bind fun a97=>(EU (V.weak t3)).bind fun a98=>(Lr a97 a98).bind fun a99=>(BL a96 24 t5).bind fun a100=>if DY true [a100]=true then(Cl 11 (AA a96 [a100]) []).bind fun a101=>(AY a96 26 t6).bind fun a102=>(Hy 9 false (ck [] [])).bind fun a103=>(slL 9 t3 none (some a99) none).bind fun a104=>if DY true [a103,a104]=true then(Gi 9 tyS false a96 a103 a104).bind fun a105=>if DY true [a101.1,a102,t2,a105]=true then(Cl 28 (AA a96 [a101.1,a102,t2,a105]) []).bind fun a106=>(Fz a106.1 0).bind fun a107=>(ext a106.1 1).bind fun a108=>(ext a106.1 2).bind fun a109=>(CJ (BI 32) 33 (a96++[(V.agg 32 [(V.int .i64 0),(V.lst 4 .nil []),(V.lst 55 .nil []),(V.lst 58 .nil []),(V.lst 108 .nil [])])]) (V.ref (List.length a96) [] 33) a107).bind fun a110=>jn (fun a111=>
 AQ 0 a110 a111) (fun(a112:V→Rv)=>(AO .eql a109 (V.int .i64 0)).bind fun a113=>V.ite a113 ((Lr t12 a99).bind fun a114=>(AO .eql a108 a114).bind fun a115=>a112 a115) (a112 (V.bool false)))else none else none else none)
  (fun(j0:List V→Rv)=>V.ite a95
  ((BL h 24 t5).bind fun a116=>if DY true [a116]=true then(Cl 11 (AA h [a116]) []).bind fun a117=>(AY h 26 t6).bind fun a118=>(BL h 33 t14).bind fun a119=>if DY true [a119]=true then(Cl 18 (AA h [a119]) []).bind fun a120=>(ET 9 (V.weak t3) t12).bind fun a121=>(AY h 9 a121).bind fun a122=>if DY true [a117.1,a118,a120.1,a122]=true then(Cl 23 (AA h [a117.1,a118,a120.1,a122]) []).bind fun a123=>(Fz a123.1 0).bind fun a124=>(ext a123.1 1).bind fun a125=>(CJ (BI 32) 33 (h++[(V.agg 32 [(V.int .i64 0),(V.lst 4 .nil []),(V.lst 55 .nil []),(V.lst 58 .nil []),(V.lst 108 .nil [])])]) (V.ref (List.length h) [] 33) a124).bind fun a126=>(AO .neq a125 (V.int .i64 171)).bind fun a127=>V.ite a127
  (AQ 0 a126 (V.bool false))
  (j0 a126)else none else none else none)
  (j0 h)))) (fun(a128:V→Rv)=>(AO .neq t13 (V.int .i64 0)).bind fun a129=>V.ite a129 (a128 (V.bool true)) ((BL h 33 t11).bind fun a130=>(BL h 33 t14).bind fun a131=>(Cl 13 (AA h [a130,a131]) []).bind fun a132=>(un .not a132.1).bind fun a133=>a128 a133))):=
 Bz (by kernel_rfl)
theorem S9 (t0 t1 t2 t3 t4:V):Cl 6 [t0,t1,t2,t3,t4] []=
 if((BI 23) (V.weak t0)&&V.under 0 (V.weak t0))=true then if((BI 25) t1&&V.under 1 t1)=true then jn (fun a1=>
 V.ite a1
  ((Cl 9 (AA [(V.weak t0),t1] []) []).bind fun a2=>AQ 0 [(V.weak t0),t1] a2.1)
  ((BL [(V.weak t0),t1] 24 (V.ref 0 [] 24)).bind fun a3=>if DY true [a3]=true then(Cl 11 (AA [(V.weak t0),t1] [a3]) []).bind fun a4=>(AY [(V.weak t0),t1] 26 (V.ref 1 [] 26)).bind fun a5=>(Hy 9 false (ck [] [])).bind fun a6=>if DY true [a6,(V.weak t3)]=true then(Gi 9 tyS false [(V.weak t0),t1] a6 (V.weak t3)).bind fun a7=>if DY true [a4.1,a5,t2,a7]=true then(Cl 28 (AA [(V.weak t0),t1] [a4.1,a5,t2,a7]) []).bind fun a8=>(Fz a8.1 0).bind fun a9=>(ext a8.1 1).bind fun a10=>(ext a8.1 2).bind fun a11=>(CJ (BI 32) 33 [(V.weak t0),t1,(V.agg 32 [(V.int .i64 0),(V.lst 4 .nil []),(V.lst 55 .nil []),(V.lst 58 .nil []),(V.lst 108 .nil [])])] (V.ref 2 [] 33) a9).bind fun a12=>(BL a12 24 (V.ref 0 [] 24)).bind fun a13=>(AY a12 26 (V.ref 1 [] 26)).bind fun a14=>(Cl 12 (AA a12 [a13,a14,t2]) []).bind fun a15=>(un .not a15.1).bind fun a16=>V.ite a16
  (jn (fun a17=>
 AQ 0 a12 a17) (fun(a18:V→Rv)=>(AO .eql a11 (V.int .i64 170)).bind fun a19=>V.ite a19 ((AO .eql a10 (V.int .i64 0)).bind fun a20=>V.ite a20 ((BL a12 33 (V.ref 2 [] 33)).bind fun a21=>((ck [] [(V.int .i64 0),(V.lst 4 .nil []),(V.lst 55 .nil []),(V.lst 58 .nil []),(V.lst 108 .nil [])]).map (.agg 32)).bind fun a22=>(Cl 13 (AA a12 [a21,a22]) []).bind fun a23=>a18 a23.1) (a18 (V.bool false))) (a18 (V.bool false))))
  ((BL a12 24 (V.ref 0 [] 24)).bind fun a24=>(AY a12 26 (V.ref 1 [] 26)).bind fun a25=>(Cl 14 (AA a12 [a24,a25,t2]) []).bind fun a26=>(CJ (BI 32) 33 (a12++[(V.agg 32 [(V.int .i64 0),(V.lst 4 .nil []),(V.lst 55 .nil []),(V.lst 58 .nil []),(V.lst 108 .nil [])])]) (V.ref (List.length a12) [] 33) a26.1).bind fun a27=>Sz t2 t3 t4 (V.ref 0 [] 24) (V.ref 1 [] 26) (V.ref 2 [] 33) a10 a11 (V.ref (List.length a12) [] 33) (V.int .i64 0) a27)else none else none else none)) (fun(a134:V→Rv)=>(Cl 9 (AA [(V.weak t0),t1] []) []).bind fun a135=>(un .not a135.1).bind fun a136=>V.ite a136 (a134 (V.bool true)) ((fA 24 22 1 (V.ref 0 [] 24)).bind fun a137=>(BL [(V.weak t0),t1] 22 a137).bind fun a138=>(EU a138).bind fun a139=>(AO .gtr a139 (V.int .i64 40)).bind fun a140=>V.ite a140 (a134 (V.bool true)) ((fA 24 3 0 (V.ref 0 [] 24)).bind fun a141=>(AY [(V.weak t0),t1] 3 a141).bind fun a142=>(AO .gtr a142 (V.int .i64 12)).bind fun a143=>V.ite a143 (a134 (V.bool true)) ((AO .gtr t2 (V.int .i64 8)).bind fun a144=>V.ite a144 (a134 (V.bool true)) ((Cl 27 (AA [(V.weak t0),t1] [(V.weak t3)]) []).bind fun a145=>(un .not a145.1).bind fun a146=>a134 a146)))))else none else none:=
 Ai (by kernel_rfl)
theorem APp:Cl 9 [] []=
 ((ck [(KW .i64) (V.int .i64 2)] [(V.int .i64 2),(V.lst 112 .nil [])]).map (.agg 23)).bind fun a1=>((ck [tyS (V.str [109,97,120]),(KW .i64) (V.int .i64 2)] [(V.str [109,97,120]),(V.int .i64 0),(V.int .i64 2)]).map (.agg 25)).bind fun a2=>(CJ (BI 23) 24 [(V.agg 23 [(V.int .i64 0),(V.lst 112 .nil [])]),(V.agg 25 [(V.str []),(V.int .i64 0),(V.int .i64 0)])] (V.ref 0 [] 24) a1).bind fun a3=>(CJ (BI 25) 26 a3 (V.ref 1 [] 26) a2).bind fun a4=>(BL a4 24 (V.ref 0 [] 24)).bind fun a5=>(AY a4 26 (V.ref 1 [] 26)).bind fun a6=>(Cl 10 (AA a4 [a5,a6,(V.int .i64 2)]) []).bind fun a7=>(Fz a7.1 0).bind fun a8=>(ext a7.1 1).bind fun a9=>(CJ (BI 32) 33 (a4++[(V.agg 32 [(V.int .i64 0),(V.lst 4 .nil []),(V.lst 55 .nil []),(V.lst 58 .nil []),(V.lst 108 .nil [])])]) (V.ref (List.length a4) [] 33) a8).bind fun a10=>(BL a10 33 (V.ref (List.length a4) [] 33)).bind fun a11=>(Cl 20 (AA a10 [a11,(V.int .i64 1)]) []).bind fun a12=>(ext a12.1 0).bind fun a13=>(ext a12.1 1).bind fun a14=>(BL a10 24 (V.ref 0 [] 24)).bind fun a15=>(AY a10 26 (V.ref 1 [] 26)).bind fun a16=>(BL a10 33 (V.ref (List.length a4) [] 33)).bind fun a17=>(Cl 23 (AA a10 [a15,a16,a17,a13]) []).bind fun a18=>(Fz a18.1 0).bind fun a19=>(ext a18.1 1).bind fun a20=>(CJ (BI 32) 33 (a10++[(V.agg 32 [(V.int .i64 0),(V.lst 4 .nil []),(V.lst 55 .nil []),(V.lst 58 .nil []),(V.lst 108 .nil [])])]) (V.ref (List.length a10) [] 33) a19).bind fun a21=>(BL a21 33 (V.ref (List.length a4) [] 33)).bind fun a22=>(mkL 60 (V.agg 59 [(V.int .i64 0),(V.int .i64 0),(V.agg 56 [(V.int .i64 0),(V.int .i64 0),(V.agg 54 (List.replicate 32 (V.int .u8 0))),(V.lst 55 .nil [])]),(V.lst 108 .nil []),(V.lst 9 .nil [])]) (V.int .i64 2) (V.int .i64 2)).bind fun a23=>(Cl 17 (AA a21 [a22,a23]) []).bind fun a24=>(ext a24.1 0).bind fun a25=>(ext a24.1 1).bind fun a26=>(BL a21 24 (V.ref 0 [] 24)).bind fun a27=>(AY a21 26 (V.ref 1 [] 26)).bind fun a28=>(BL a21 33 (V.ref (List.length a4) [] 33)).bind fun a29=>(Cl 23 (AA a21 [a27,a28,a29,a25]) []).bind fun a30=>(Fz a30.1 0).bind fun a31=>(ext a30.1 1).bind fun a32=>(CJ (BI 32) 33 (a21++[(V.agg 32 [(V.int .i64 0),(V.lst 4 .nil []),(V.lst 55 .nil []),(V.lst 58 .nil []),(V.lst 108 .nil [])])]) (V.ref (List.length a21) [] 33) a31).bind fun a33=>(BL a33 24 (V.ref 0 [] 24)).bind fun a34=>(AY a33 26 (V.ref 1 [] 26)).bind fun a35=>(Hy 9 false (ck [tyS a13,tyS a25,tyS (V.str [120])] [a13,a25,(V.str [120])])).bind fun a36=>(Cl 28 (AA a33 [a34,a35,(V.int .i64 2),a36]) []).bind fun a37=>(Fz a37.1 0).bind fun a38=>(ext a37.1 1).bind fun a39=>(ext a37.1 2).bind fun a40=>(CJ (BI 32) 33 (a33++[(V.agg 32 [(V.int .i64 0),(V.lst 4 .nil []),(V.lst 55 .nil []),(V.lst 58 .nil []),(V.lst 108 .nil [])])]) (V.ref (List.length a33) [] 33) a38).bind fun a41=>jn (fun a42=>
 AQ 0 a41 a42) (fun(a43:V→Rv)=>(AO .eql a9 (V.int .i64 0)).bind fun a44=>V.ite a44 ((fA 33 28 1 (V.ref (List.length a4) [] 33)).bind fun a45=>(BL a41 28 a45).bind fun a46=>(EU a46).bind fun a47=>(AO .eql a47 (V.int .i64 2)).bind fun a48=>V.ite a48 ((AO .eql a13 (V.str [69,1])).bind fun a49=>V.ite a49 ((AO .eql a14 (V.int .i64 0)).bind fun a50=>V.ite a50 ((AO .eql a20 (V.int .i64 0)).bind fun a51=>V.ite a51 ((fA 33 28 1 (V.ref (List.length a10) [] 33)).bind fun a52=>(BL a41 28 a52).bind fun a53=>(ET 4 a53 (V.int .i64 1)).bind fun a54=>(AY a41 4 a54).bind fun a55=>V.ite a55 ((fA 33 28 1 (V.ref (List.length a10) [] 33)).bind fun a56=>(BL a41 28 a56).bind fun a57=>(ET 4 a57 (V.int .i64 0)).bind fun a58=>(AY a41 4 a58).bind fun a59=>(un .not a59).bind fun a60=>V.ite a60 ((fA 33 3 0 (V.ref (List.length a10) [] 33)).bind fun a61=>(AY a41 3 a61).bind fun a62=>(AO .eql a62 (V.int .i64 0)).bind fun a63=>V.ite a63 ((AO .eql a26 (V.int .i64 0)).bind fun a64=>V.ite a64 ((AO .eql a32 (V.int .i64 0)).bind fun a65=>V.ite a65 ((fA 33 3 0 (V.ref (List.length a21) [] 33)).bind fun a66=>(AY a41 3 a66).bind fun a67=>(AO .eql a67 (V.int .i64 1)).bind fun a68=>V.ite a68 ((AO .eql a39 (V.int .i64 2)).bind fun a69=>V.ite a69 ((AO .eql a40 (V.int .i64 0)).bind fun a70=>V.ite a70 ((fA 33 3 0 (V.ref (List.length a33) [] 33)).bind fun a71=>(AY a41 3 a71).bind fun a72=>(AO .eql a72 (V.int .i64 1)).bind fun a73=>V.ite a73 ((fA 33 28 1 (V.ref (List.length a33) [] 33)).bind fun a74=>(BL a41 28 a74).bind fun a75=>(ET 4 a75 (V.int .i64 1)).bind fun a76=>(AY a41 4 a76).bind fun a77=>a43 a77) (a43 (V.bool false))) (a43 (V.bool false))) (a43 (V.bool false))) (a43 (V.bool false))) (a43 (V.bool false))) (a43 (V.bool false))) (a43 (V.bool false))) (a43 (V.bool false))) (a43 (V.bool false))) (a43 (V.bool false))) (a43 (V.bool false))) (a43 (V.bool false))) (a43 (V.bool false))) (a43 (V.bool false))):=
 Ai (by kernel_rfl)
def Ls (t2 t3 t4 t6 t8 t31 t32:V) (h:List V):Rv:=lp W 10 0 (cd 10 151) (bk 0 (sk 10 0 31 (lv 10 0))) ⟨[(2,t2),(3,t3),(4,t4),(6,t6),(8,t8),(31,t31),(32,t32)],h⟩
def Ox (t2 t3 t4 t6 t8 t12 t31 t32 t43 t44 t45:V) (m0:Nat) (h:List V):Rv:=lp W 10 2 (cd 10 309655) (bk 2 (sk 10 1 63895 (bk 1 (sk 10 0 1943 (lk 10 0 m0 151 (bk 0 (sk 10 0 31 (lv 10 0)))))))) ⟨[(2,t2),(3,t3),(4,t4),(6,t6),(8,t8),(12,t12),(31,t31),(32,t32),(43,t43),(44,t44),(45,t45)],h⟩
theorem TA (t2 t3 t4 t6 t8 t12 t31 t32 t43 t44 t45:V) (m0:Nat) (h:List V):Ox t2 t3 t4 t6 t8 t12 t31 t32 t43 t44 t45 m0 h=
 (AO .lss t45 t44).bind fun a15=>V.ite a15
  ((ET 3 t43 t45).bind fun a16=>(AY h 3 a16).bind fun a17=>(AY h 26 t4).bind fun a18=>(Cl 34 (AA h [a18,a17]) []).bind fun a19=>(Hy 81 false (ck [(BI 80) a19.1] [a19.1])).bind fun a20=>(Gi 81 (BI 80) false h t12 a20).bind fun a21=>(AO .add t45 (V.int .i64 1)).bind fun a22=>Ox t2 t3 t4 t6 t8 a21 t31 t32 t43 t44 a22 m0 h)
  ((fA 33 29 2 t8).bind fun a23=>if(ADY t8 2 a23&&Dx t8 a23)=true then(BN h 29 a23).bind fun a24=>Bl P DZ W (some t8) (V.clo 35 []) [(V.weak t12)] a24.2 fun a25 a26=>(Hy 55 false (ck [(BI 54) a25] [a25])).bind fun a27=>if DY true [a24.1,a27]=true then(Gi 55 (BI 54) false a26 a24.1 a27).bind fun a28=>(fA 33 30 3 t8).bind fun a29=>if(ADY t8 3 a29&&Dx t8 a29)=true then(BN a26 30 a29).bind fun a30=>Bl P DZ W (some t8) (V.clo 36 []) [(V.weak t12)] a30.2 fun a31 a32=>(Hy 58 true (ck [(IE 9) a31] [(V.weak a31)])).bind fun a33=>(Gi 58 (IE 9) true a32 a30.1 a33).bind fun a34=>(fA 33 29 2 t8).bind fun a35=>(CJ (IE 55) 29 a32 a35 a28).bind fun a36=>(fA 33 30 3 t8).bind fun a37=>(CJ (IE 58) 30 a36 a37 a34).bind fun a38=>(AO .add t32 (V.int .i64 1)).bind fun a39=>Ls t2 t3 t4 t6 t8 t31 a39 a38 else none else none else none):=
 Bz (by kernel_rfl)
theorem TB (t2 t3 t4 t6 t8 t31 t32:V) (h:List V):Ls t2 t3 t4 t6 t8 t31 t32 h=
 (AO .lss t32 t31).bind fun a8=>V.ite a8
  ((fA 24 3 0 t3).bind fun a9=>(AY h 3 a9).bind fun a10=>(Cl 33 (AA h [a10,t2,t32]) []).bind fun a11=>(Fz a11.1 0).bind fun a12=>(ext a11.1 1).bind fun a13=>(EU a12).bind fun a14=>Ox t2 t3 t4 t6 t8 (V.weak (V.lst 81 .nil [])) t31 t32 a12 a14 (V.int .i64 0) (List.length h) h)
  ((BL h 33 t8).bind fun a40=>(CJ (BI 32) 33 h t6 a40).bind fun a41=>(BL a41 33 t6).bind fun a42=>if(List.all [(V.int .i64 0),a42] V.okE)=true then AQ 0 a41 (V.tup [a42,(V.int .i64 0)])else none):=
 Bz (by kernel_rfl)
theorem AE6 (t0 t1 t2:V):Cl 10 [t0,t1,t2] []=
 if((BI 23) (V.weak t0)&&V.under 0 (V.weak t0))=true then if((BI 25) t1&&V.under 1 t1)=true then jn (fun a1=>
 V.ite a1
  (((ck [] [(V.int .i64 0),(V.lst 4 .nil []),(V.lst 55 .nil []),(V.lst 58 .nil []),(V.lst 108 .nil [])]).map (.agg 32)).bind fun a2=>(CJ (BI 32) 33 [(V.weak t0),t1,(V.agg 32 [(V.int .i64 0),(V.lst 4 .nil []),(V.lst 55 .nil []),(V.lst 58 .nil []),(V.lst 108 .nil [])])] (V.ref 2 [] 33) a2).bind fun a3=>(BL a3 33 (V.ref 2 [] 33)).bind fun a4=>if(List.all [(V.int .i64 170),a4] V.okE)=true then AQ 0 a3 (V.tup [a4,(V.int .i64 170)])else none)
  ((mkL 4 (V.bool false) t2 t2).bind fun a5=>((ck [(IE 4) a5] [(V.int .i64 0),(V.weak a5),(V.lst 55 .nil []),(V.lst 58 .nil []),(V.lst 108 .nil [])]).map (.agg 32)).bind fun a6=>(CJ (BI 32) 33 [(V.weak t0),t1,(V.agg 32 [(V.int .i64 0),(V.lst 4 .nil []),(V.lst 55 .nil []),(V.lst 58 .nil []),(V.lst 108 .nil [])]),(V.agg 32 [(V.int .i64 0),(V.lst 4 .nil []),(V.lst 55 .nil []),(V.lst 58 .nil []),(V.lst 108 .nil [])])] (V.ref 3 [] 33) a6).bind fun a7=>Ls t2 (V.ref 0 [] 24) (V.ref 1 [] 26) (V.ref 2 [] 33) (V.ref 3 [] 33) t2 (V.int .i64 0) a7)) (fun(a43:V→Rv)=>(BL [(V.weak t0),t1,(V.agg 32 [(V.int .i64 0),(V.lst 4 .nil []),(V.lst 55 .nil []),(V.lst 58 .nil []),(V.lst 108 .nil [])])] 24 (V.ref 0 [] 24)).bind fun a44=>(AY [(V.weak t0),t1,(V.agg 32 [(V.int .i64 0),(V.lst 4 .nil []),(V.lst 55 .nil []),(V.lst 58 .nil []),(V.lst 108 .nil [])])] 26 (V.ref 1 [] 26)).bind fun a45=>(Cl 32 (AA [(V.weak t0),t1,(V.agg 32 [(V.int .i64 0),(V.lst 4 .nil []),(V.lst 55 .nil []),(V.lst 58 .nil []),(V.lst 108 .nil [])])] [a44,a45]) []).bind fun a46=>(AO .neq a46.1 (V.int .i64 0)).bind fun a47=>V.ite a47 (a43 (V.bool true)) ((AO .lss t2 (V.int .i64 1)).bind fun a48=>V.ite a48 (a43 (V.bool true)) ((AO .gtr t2 (V.int .i64 64)).bind fun a49=>a43 a49)))else none else none:=
 Ai (by kernel_rfl)
theorem AMX (t0:V):Cl 11 [t0] []=
 if((BI 23) (V.weak t0)&&V.under 0 (V.weak t0))=true then(fA 24 3 0 (V.ref 0 [] 24)).bind fun a1=>(AY [(V.weak t0),(V.agg 23 [(V.int .i64 0),(V.lst 112 .nil [])])] 3 a1).bind fun a2=>(Hy 112 false (ck [] [])).bind fun a3=>(fA 24 22 1 (V.ref 0 [] 24)).bind fun a4=>(BL [(V.weak t0),(V.agg 23 [(V.int .i64 0),(V.lst 112 .nil [])])] 22 a4).bind fun a5=>(Gi 112 (BI 111) false [(V.weak t0),(V.agg 23 [(V.int .i64 0),(V.lst 112 .nil [])])] a3 a5).bind fun a6=>((ck [(KW .i64) a2,(IE 112) a6] [a2,(V.weak a6)]).map (.agg 23)).bind fun a7=>(CJ (BI 23) 24 [(V.weak t0),(V.agg 23 [(V.int .i64 0),(V.lst 112 .nil [])])] (V.ref 1 [] 24) a7).bind fun a8=>(BL a8 24 (V.ref 1 [] 24)).bind fun a9=>AQ 0 a8 a9 else none:=
 Ai (by kernel_rfl)
theorem AMY (t0 t1 t2:V):Cl 12 [t0,t1,t2] []=
 if((BI 23) (V.weak t0)&&V.under 0 (V.weak t0))=true then if((BI 25) t1&&V.under 1 t1)=true then jn (fun a1=>
 AQ 0 [(V.weak t0),t1] a1) (fun(a2:V→Rv)=>(BL [(V.weak t0),t1] 24 (V.ref 0 [] 24)).bind fun a3=>(AY [(V.weak t0),t1] 26 (V.ref 1 [] 26)).bind fun a4=>(Cl 37 (AA [(V.weak t0),t1] [a3,a4]) []).bind fun a5=>V.ite a5.1 ((AO .geq t2 (V.int .i64 1)).bind fun a6=>V.ite a6 ((AO .leq t2 (V.int .i64 64)).bind fun a7=>a2 a7) (a2 (V.bool false))) (a2 (V.bool false)))else none else none:=
 Ai (by kernel_rfl)
def U3 (t2 t3 t5:V) (h:List V):Rv:=lp W 13 0 (cd 13 75) (bk 0 (sk 13 0 15 (lv 13 0))) ⟨[(2,t2),(3,t3),(5,t5)],h⟩
def U4 (t2 t3 t6:V) (h:List V):Rv:=lp W 13 2 (cd 13 151) (bk 2 (sk 13 0 31 (lv 13 0))) ⟨[(2,t2),(3,t3),(6,t6)],h⟩
def U5 (t2 t3 t7:V) (h:List V):Rv:=lp W 13 4 (cd 13 303) (bk 4 (sk 13 0 63 (lv 13 0))) ⟨[(2,t2),(3,t3),(7,t7)],h⟩
theorem TD (t2 t3 t7:V) (h:List V):U5 t2 t3 t7 h=
 (fA 33 30 3 t2).bind fun a30=>(BL h 30 a30).bind fun a31=>(EU a31).bind fun a32=>(AO .lss t7 a32).bind fun a33=>V.ite a33
  ((fA 33 30 3 t2).bind fun a34=>(BL h 30 a34).bind fun a35=>(ET 58 a35 t7).bind fun a36=>(BL h 58 a36).bind fun a37=>(fA 33 30 3 t3).bind fun a38=>(BL h 30 a38).bind fun a39=>(ET 58 a39 t7).bind fun a40=>(BL h 58 a40).bind fun a41=>(Cl 25 (AA h [a37,a41]) []).bind fun a42=>(un .not a42.1).bind fun a43=>V.ite a43
  (AQ 0 h (V.bool false))
  ((AO .add t7 (V.int .i64 1)).bind fun a44=>U5 t2 t3 a44 h))
  (AQ 0 h (V.bool true)):=
 Bz (by kernel_rfl)
theorem TF (t2 t3 t6:V) (h:List V):U4 t2 t3 t6 h=
 (fA 33 29 2 t2).bind fun a16=>(BL h 29 a16).bind fun a17=>(EU a17).bind fun a18=>(AO .lss t6 a18).bind fun a19=>V.ite a19
  ((fA 33 29 2 t2).bind fun a20=>(BL h 29 a20).bind fun a21=>(ET 55 a21 t6).bind fun a22=>(AY h 55 a22).bind fun a23=>(fA 33 29 2 t3).bind fun a24=>(BL h 29 a24).bind fun a25=>(ET 55 a25 t6).bind fun a26=>(AY h 55 a26).bind fun a27=>(U2 (BI 54) .neq a23 a27).bind fun a28=>V.ite a28
  (AQ 0 h (V.bool false))
  ((AO .add t6 (V.int .i64 1)).bind fun a29=>U4 t2 t3 a29 h))
  (U5 t2 t3 (V.int .i64 0) h):=
 Bz (by kernel_rfl)
theorem TG (t2 t3 t5:V) (h:List V):U3 t2 t3 t5 h=
 (fA 33 28 1 t2).bind fun a2=>(BL h 28 a2).bind fun a3=>(EU a3).bind fun a4=>(AO .lss t5 a4).bind fun a5=>V.ite a5
  ((fA 33 28 1 t2).bind fun a6=>(BL h 28 a6).bind fun a7=>(ET 4 a7 t5).bind fun a8=>(AY h 4 a8).bind fun a9=>(fA 33 28 1 t3).bind fun a10=>(BL h 28 a10).bind fun a11=>(ET 4 a11 t5).bind fun a12=>(AY h 4 a12).bind fun a13=>(U2 tyB .neq a9 a13).bind fun a14=>V.ite a14
  (AQ 0 h (V.bool false))
  ((AO .add t5 (V.int .i64 1)).bind fun a15=>U3 t2 t3 a15 h))
  (U4 t2 t3 (V.int .i64 0) h):=
 Bz (by kernel_rfl)
theorem AMZ (t0 t1:V):Cl 13 [t0,t1] []=
 if((BI 32) (V.weak t0)&&V.under 0 (V.weak t0))=true then if((BI 32) (V.weak t1)&&V.under 1 (V.weak t1))=true then jn (fun a1=>
 V.ite a1
  (AQ 0 [(V.weak t0),(V.weak t1)] (V.bool false))
  (U3 (V.ref 0 [] 33) (V.ref 1 [] 33) (V.int .i64 0) [(V.weak t0),(V.weak t1)])) (fun(a45:V→Rv)=>(fA 33 3 0 (V.ref 0 [] 33)).bind fun a46=>(AY [(V.weak t0),(V.weak t1)] 3 a46).bind fun a47=>(fA 33 3 0 (V.ref 1 [] 33)).bind fun a48=>(AY [(V.weak t0),(V.weak t1)] 3 a48).bind fun a49=>(AO .neq a47 a49).bind fun a50=>V.ite a50 (a45 (V.bool true)) ((fA 33 28 1 (V.ref 0 [] 33)).bind fun a51=>(BL [(V.weak t0),(V.weak t1)] 28 a51).bind fun a52=>(EU a52).bind fun a53=>(fA 33 28 1 (V.ref 1 [] 33)).bind fun a54=>(BL [(V.weak t0),(V.weak t1)] 28 a54).bind fun a55=>(EU a55).bind fun a56=>(AO .neq a53 a56).bind fun a57=>V.ite a57 (a45 (V.bool true)) ((fA 33 29 2 (V.ref 0 [] 33)).bind fun a58=>(BL [(V.weak t0),(V.weak t1)] 29 a58).bind fun a59=>(EU a59).bind fun a60=>(fA 33 29 2 (V.ref 1 [] 33)).bind fun a61=>(BL [(V.weak t0),(V.weak t1)] 29 a61).bind fun a62=>(EU a62).bind fun a63=>(AO .neq a60 a63).bind fun a64=>V.ite a64 (a45 (V.bool true)) ((fA 33 30 3 (V.ref 0 [] 33)).bind fun a65=>(BL [(V.weak t0),(V.weak t1)] 30 a65).bind fun a66=>(EU a66).bind fun a67=>(fA 33 30 3 (V.ref 1 [] 33)).bind fun a68=>(BL [(V.weak t0),(V.weak t1)] 30 a68).bind fun a69=>(EU a69).bind fun a70=>(AO .neq a67 a70).bind fun a71=>V.ite a71 (a45 (V.bool true)) ((fA 33 31 4 (V.ref 0 [] 33)).bind fun a72=>(BL [(V.weak t0),(V.weak t1)] 31 a72).bind fun a73=>(fA 33 31 4 (V.ref 1 [] 33)).bind fun a74=>(BL [(V.weak t0),(V.weak t1)] 31 a74).bind fun a75=>(Cl 38 (AA [(V.weak t0),(V.weak t1)] [a73,a75]) []).bind fun a76=>(un .not a76.1).bind fun a77=>a45 a77)))))else none else none:=
 Ai (by kernel_rfl)
def Lu (t2 t3 t4 t6 t7 t8:V) (h:List V):Rv:=lp W 14 0 (cd 14 75) (bk 0 (sk 14 0 15 (lv 14 0))) ⟨[(2,t2),(3,t3),(4,t4),(6,t6),(7,t7),(8,t8)],h⟩
def Oy (t2 t3 t4 t6 t7 t8 t9 t10 t11:V) (m0:Nat) (h:List V):Rv:=lp W 14 2 (cd 14 19019) (bk 2 (sk 14 1 3659 (bk 1 (sk 14 0 459 (lk 14 0 m0 75 (bk 0 (sk 14 0 15 (lv 14 0)))))))) ⟨[(2,t2),(3,t3),(4,t4),(6,t6),(7,t7),(8,t8),(9,t9),(10,t10),(11,t11)],h⟩
theorem TI (t2 t3 t4 t6 t7 t8 t9 t10 t11:V) (m0:Nat) (h:List V):Oy t2 t3 t4 t6 t7 t8 t9 t10 t11 m0 h=
 (EU (V.weak t9)).bind fun a8=>(AO .lss t11 a8).bind fun a9=>V.ite a9
  ((AY h 26 t4).bind fun a10=>(ET 3 (V.weak t9) t11).bind fun a11=>(AY h 3 a11).bind fun a12=>(Cl 40 (AA h [a10,a12]) []).bind fun a13=>(Hy 81 false (ck [(BI 80) a13.1] [a13.1])).bind fun a14=>(Gi 81 (BI 80) false h t10 a14).bind fun a15=>(AO .add t11 (V.int .i64 1)).bind fun a16=>Oy t2 t3 t4 t6 t7 t8 t9 a15 a16 m0 h)
  ((fA 33 28 1 t7).bind fun a17=>(BN h 28 a17).bind fun a18=>(Hy 4 false (ck [tyB (V.bool false)] [(V.bool false)])).bind fun a19=>(Gi 4 tyB false a18.2 a18.1 a19).bind fun a20=>(fA 33 28 1 t7).bind fun a21=>(CJ (IE 4) 28 a18.2 a21 a20).bind fun a22=>(fA 33 29 2 t7).bind fun a23=>if Dx t7 a23=true then(BN a22 29 a23).bind fun a24=>Bl P DZ W (some t7) (V.clo 41 []) [(V.weak t10)] a24.2 fun a25 a26=>(Hy 55 false (ck [(BI 54) a25] [a25])).bind fun a27=>(Gi 55 (BI 54) false a26 a24.1 a27).bind fun a28=>(fA 33 29 2 t7).bind fun a29=>(CJ (IE 55) 29 a26 a29 a28).bind fun a30=>(fA 33 30 3 t7).bind fun a31=>if Dx t7 a31=true then(BN a30 30 a31).bind fun a32=>Bl P DZ W (some t7) (V.clo 42 []) [t10] a32.2 fun a33 a34=>(Hy 58 true (ck [(IE 9) a33] [(V.weak a33)])).bind fun a35=>(Gi 58 (IE 9) true a34 a32.1 a35).bind fun a36=>(fA 33 30 3 t7).bind fun a37=>(CJ (IE 58) 30 a34 a37 a36).bind fun a38=>(AO .add t8 (V.int .i64 1)).bind fun a39=>Lu t2 t3 t4 t6 t7 a39 a38 else none else none):=
 Bz (by kernel_rfl)
theorem TJ (t2 t3 t4 t6 t7 t8:V) (h:List V):Lu t2 t3 t4 t6 t7 t8 h=
 (AO .lss t8 t2).bind fun a3=>V.ite a3
  ((fA 24 3 0 t3).bind fun a4=>(AY h 3 a4).bind fun a5=>(Cl 39 (AA h [a5,t2,t8]) []).bind fun a6=>(Hy 81 false (ck [] [])).bind fun a7=>Oy t2 t3 t4 t6 t7 t8 a6.1 a7 (V.int .i64 0) (List.length h) h)
  ((BL h 33 t7).bind fun a40=>(CJ (BI 32) 33 h t6 a40).bind fun a41=>(BL a41 33 t6).bind fun a42=>AQ 0 a41 a42):=
 Bz (by kernel_rfl)
theorem AMa (t0 t1 t2:V):Cl 14 [t0,t1,t2] []=
 if((BI 23) (V.weak t0)&&V.under 0 (V.weak t0))=true then if((BI 25) t1&&V.under 1 t1)=true then((ck [] [(V.int .i64 0),(V.lst 4 .nil []),(V.lst 55 .nil []),(V.lst 58 .nil []),(V.lst 108 .nil [])]).map (.agg 32)).bind fun a1=>(CJ (BI 32) 33 [(V.weak t0),t1,(V.agg 32 [(V.int .i64 0),(V.lst 4 .nil []),(V.lst 55 .nil []),(V.lst 58 .nil []),(V.lst 108 .nil [])]),(V.agg 32 [(V.int .i64 0),(V.lst 4 .nil []),(V.lst 55 .nil []),(V.lst 58 .nil []),(V.lst 108 .nil [])])] (V.ref 3 [] 33) a1).bind fun a2=>Lu t2 (V.ref 0 [] 24) (V.ref 1 [] 26) (V.ref 2 [] 33) (V.ref 3 [] 33) (V.int .i64 0) a2 else none else none:=
 Ai (by kernel_rfl)
def U6 (t1 t2 t3 t4:V) (h:List V):Rv:=lp W 18 0 (cd 18 75) (bk 0 (sk 18 0 15 (lv 18 0))) ⟨[(1,t1),(2,t2),(3,t3),(4,t4)],h⟩
theorem TL (t1 t2 t3 t4:V) (h:List V):U6 t1 t2 t3 t4 h=
 (fA 33 30 3 t1).bind fun a17=>(BL h 30 a17).bind fun a18=>(EU a18).bind fun a19=>(AO .lss t4 a19).bind fun a20=>V.ite a20
  (if(ND t3 t1&&true)=true then(fA 33 30 3 t3).bind fun a21=>if Dx t3 a21=true then(BN h 30 a21).bind fun a22=>(Hy 9 false (ck [] [])).bind fun a23=>(fA 33 30 3 t1).bind fun a24=>if Dx t1 a24=true then(BL a22.2 30 a24).bind fun a25=>(ET 58 a25 t4).bind fun a26=>if DY true [a26]=true then(BL a22.2 58 a26).bind fun a27=>if DY true [a23,a27]=true then(Gi 9 tyS false a22.2 a23 a27).bind fun a28=>(Hy 58 true (ck [(IE 9) a28] [(V.weak a28)])).bind fun a29=>(Gi 58 (IE 9) true a22.2 a22.1 a29).bind fun a30=>(fA 33 30 3 t3).bind fun a31=>(CJ (IE 58) 30 a22.2 a31 a30).bind fun a32=>(AO .add t4 (V.int .i64 1)).bind fun a33=>U6 t1 t2 t3 a33 a32 else none else none else none else none else none)
  ((BL h 33 t3).bind fun a34=>(CJ (BI 32) 33 h t2 a34).bind fun a35=>(BL a35 33 t2).bind fun a36=>AQ 0 a35 a36):=
 Bz (by kernel_rfl)
theorem AMb (t0:V):Cl 18 [t0] []=
 if((BI 32) (V.weak t0)&&V.under 0 (V.weak t0))=true then(fA 33 3 0 (V.ref 0 [] 33)).bind fun a1=>(AY [(V.weak t0),(V.agg 32 [(V.int .i64 0),(V.lst 4 .nil []),(V.lst 55 .nil []),(V.lst 58 .nil []),(V.lst 108 .nil [])])] 3 a1).bind fun a2=>(Hy 4 false (ck [] [])).bind fun a3=>(fA 33 28 1 (V.ref 0 [] 33)).bind fun a4=>(BL [(V.weak t0),(V.agg 32 [(V.int .i64 0),(V.lst 4 .nil []),(V.lst 55 .nil []),(V.lst 58 .nil []),(V.lst 108 .nil [])])] 28 a4).bind fun a5=>if DY true [a3,a5]=true then(Gi 4 tyB false [(V.weak t0),(V.agg 32 [(V.int .i64 0),(V.lst 4 .nil []),(V.lst 55 .nil []),(V.lst 58 .nil []),(V.lst 108 .nil [])])] a3 a5).bind fun a6=>(Hy 55 false (ck [] [])).bind fun a7=>(fA 33 29 2 (V.ref 0 [] 33)).bind fun a8=>(BL [(V.weak t0),(V.agg 32 [(V.int .i64 0),(V.lst 4 .nil []),(V.lst 55 .nil []),(V.lst 58 .nil []),(V.lst 108 .nil [])])] 29 a8).bind fun a9=>if DY true [a7,a9]=true then(Gi 55 (BI 54) false [(V.weak t0),(V.agg 32 [(V.int .i64 0),(V.lst 4 .nil []),(V.lst 55 .nil []),(V.lst 58 .nil []),(V.lst 108 .nil [])])] a7 a9).bind fun a10=>(Hy 108 false (ck [] [])).bind fun a11=>(fA 33 31 4 (V.ref 0 [] 33)).bind fun a12=>(BL [(V.weak t0),(V.agg 32 [(V.int .i64 0),(V.lst 4 .nil []),(V.lst 55 .nil []),(V.lst 58 .nil []),(V.lst 108 .nil [])])] 31 a12).bind fun a13=>if DY true [a11,a13]=true then(Gi 108 (BI 107) false [(V.weak t0),(V.agg 32 [(V.int .i64 0),(V.lst 4 .nil []),(V.lst 55 .nil []),(V.lst 58 .nil []),(V.lst 108 .nil [])])] a11 a13).bind fun a14=>((ck [(KW .i64) a2,(IE 4) a6,(IE 55) a10,(IE 108) a14] [a2,(V.weak a6),(V.weak a10),(V.lst 58 .nil []),(V.weak a14)]).map (.agg 32)).bind fun a15=>(CJ (BI 32) 33 [(V.weak t0),(V.agg 32 [(V.int .i64 0),(V.lst 4 .nil []),(V.lst 55 .nil []),(V.lst 58 .nil []),(V.lst 108 .nil [])]),(V.agg 32 [(V.int .i64 0),(V.lst 4 .nil []),(V.lst 55 .nil []),(V.lst 58 .nil []),(V.lst 108 .nil [])])] (V.ref 2 [] 33) a15).bind fun a16=>U6 (V.ref 0 [] 33) (V.ref 1 [] 33) (V.ref 2 [] 33) (V.int .i64 0) a16 else none else none else none else none:=
 Ai (KU<|AMT ⟨[(1,(V.ref 0 [] 33)),(2,(V.ref 1 [] 33))],[(V.weak t0),(V.agg 32 [(V.int .i64 0),(V.lst 4 .nil []),(V.lst 55 .nil []),(V.lst 58 .nil []),(V.lst 108 .nil [])])]⟩ (F:=fun r=>if((BI 32) (V.weak t0)&&V.under 0 (V.weak t0))=true then r else none) (by kernel_rfl))
theorem L6 (t0 t1 t2 t3:V):Cl 23 [t0,t1,t2,t3] []=
 if((BI 23) (V.weak t0)&&V.under 0 (V.weak t0))=true then if((BI 25) t1&&V.under 1 t1)=true then if((BI 32) (V.weak t2)&&V.under 2 (V.weak t2))=true then(BL [(V.weak t0),t1,(V.weak t2),(V.agg 32 [(V.int .i64 0),(V.lst 4 .nil []),(V.lst 55 .nil []),(V.lst 58 .nil []),(V.lst 108 .nil [])])] 24 (V.ref 0 [] 24)).bind fun a1=>(AY [(V.weak t0),t1,(V.weak t2),(V.agg 32 [(V.int .i64 0),(V.lst 4 .nil []),(V.lst 55 .nil []),(V.lst 58 .nil []),(V.lst 108 .nil [])])] 26 (V.ref 1 [] 26)).bind fun a2=>(fA 33 28 1 (V.ref 2 [] 33)).bind fun a3=>(BL [(V.weak t0),t1,(V.weak t2),(V.agg 32 [(V.int .i64 0),(V.lst 4 .nil []),(V.lst 55 .nil []),(V.lst 58 .nil []),(V.lst 108 .nil [])])] 28 a3).bind fun a4=>(EU a4).bind fun a5=>(Cl 10 (AA [(V.weak t0),t1,(V.weak t2),(V.agg 32 [(V.int .i64 0),(V.lst 4 .nil []),(V.lst 55 .nil []),(V.lst 58 .nil []),(V.lst 108 .nil [])])] [a1,a2,a5]) []).bind fun a6=>(Fz a6.1 0).bind fun a7=>(ext a6.1 1).bind fun a8=>(CJ (BI 32) 33 [(V.weak t0),t1,(V.weak t2),(V.agg 32 [(V.int .i64 0),(V.lst 4 .nil []),(V.lst 55 .nil []),(V.lst 58 .nil []),(V.lst 108 .nil [])]),(V.agg 32 [(V.int .i64 0),(V.lst 4 .nil []),(V.lst 55 .nil []),(V.lst 58 .nil []),(V.lst 108 .nil [])])] (V.ref 4 [] 33) a7).bind fun a9=>jn (fun a10=>
 V.ite a10
  (((ck [] [(V.int .i64 0),(V.lst 4 .nil []),(V.lst 55 .nil []),(V.lst 58 .nil []),(V.lst 108 .nil [])]).map (.agg 32)).bind fun a11=>(CJ (BI 32) 33 a9 (V.ref 3 [] 33) a11).bind fun a12=>(BL a12 33 (V.ref 3 [] 33)).bind fun a13=>if(List.all [(V.int .i64 171),a13] V.okE)=true then AQ 0 a12 (V.tup [a13,(V.int .i64 171)])else none)
  ((Cl 54 (AU [t3]) a9).bind fun a14=>((ck [] [(V.int .i64 0),(V.lst 4 .nil []),(V.lst 55 .nil []),(V.lst 58 .nil []),(V.lst 108 .nil [])]).map (.agg 32)).bind fun a15=>(CJ (BI 32) 33 (a14.2++[(V.agg 32 [(V.int .i64 0),(V.lst 4 .nil []),(V.lst 55 .nil []),(V.lst 58 .nil []),(V.lst 108 .nil [])])]) (V.ref (List.length a14.2) [] 33) a15).bind fun a16=>(Cl 55 (AU [a14.1]) a16).bind fun a17=>(AO .eql a17.1 (V.int .u64 65)).bind fun a18=>V.ite a18
  ((AY a17.2 26 (V.ref 1 [] 26)).bind fun a19=>(BL a17.2 33 (V.ref 2 [] 33)).bind fun a20=>(Cl 56 (AU [a19,a20,a14.1]) a17.2).bind fun a21=>(Fz a21.1 0).bind fun a22=>(ext a21.1 1).bind fun a23=>(CJ (BI 32) 33 a21.2 (V.ref (List.length a14.2) [] 33) a22).bind fun a24=>(un .not a23).bind fun a25=>V.ite a25
  (((ck [] [(V.int .i64 0),(V.lst 4 .nil []),(V.lst 55 .nil []),(V.lst 58 .nil []),(V.lst 108 .nil [])]).map (.agg 32)).bind fun a26=>(CJ (BI 32) 33 a24 (V.ref 3 [] 33) a26).bind fun a27=>(BL a27 33 (V.ref 3 [] 33)).bind fun a28=>if(List.all [(V.int .i64 171),a28] V.okE)=true then AQ 0 a27 (V.tup [a28,(V.int .i64 171)])else none)
  ((BL a24 33 (V.ref (List.length a14.2) [] 33)).bind fun a29=>(CJ (BI 32) 33 a24 (V.ref 3 [] 33) a29).bind fun a30=>(BL a30 33 (V.ref 3 [] 33)).bind fun a31=>if(List.all [(V.int .i64 0),a31] V.okE)=true then AQ 0 a30 (V.tup [a31,(V.int .i64 0)])else none))
  ((AO .eql a17.1 (V.int .u64 69)).bind fun a32=>V.ite a32
  ((BL a17.2 24 (V.ref 0 [] 24)).bind fun a33=>(AY a17.2 26 (V.ref 1 [] 26)).bind fun a34=>(BL a17.2 33 (V.ref 2 [] 33)).bind fun a35=>(Cl 57 (AU [a33,a34,a35,a14.1]) a17.2).bind fun a36=>(Fz a36.1 0).bind fun a37=>(ext a36.1 1).bind fun a38=>(CJ (BI 32) 33 a36.2 (V.ref (List.length a14.2) [] 33) a37).bind fun a39=>(un .not a38).bind fun a40=>V.ite a40
  (((ck [] [(V.int .i64 0),(V.lst 4 .nil []),(V.lst 55 .nil []),(V.lst 58 .nil []),(V.lst 108 .nil [])]).map (.agg 32)).bind fun a41=>(CJ (BI 32) 33 a39 (V.ref 3 [] 33) a41).bind fun a42=>(BL a42 33 (V.ref 3 [] 33)).bind fun a43=>if(List.all [(V.int .i64 171),a43] V.okE)=true then AQ 0 a42 (V.tup [a43,(V.int .i64 171)])else none)
  ((BL a39 33 (V.ref (List.length a14.2) [] 33)).bind fun a44=>(CJ (BI 32) 33 a39 (V.ref 3 [] 33) a44).bind fun a45=>(BL a45 33 (V.ref 3 [] 33)).bind fun a46=>if(List.all [(V.int .i64 0),a46] V.okE)=true then AQ 0 a45 (V.tup [a46,(V.int .i64 0)])else none))
  ((un .not (V.bool false)).bind fun a47=>V.ite a47
  (((ck [] [(V.int .i64 0),(V.lst 4 .nil []),(V.lst 55 .nil []),(V.lst 58 .nil []),(V.lst 108 .nil [])]).map (.agg 32)).bind fun a48=>(CJ (BI 32) 33 a17.2 (V.ref 3 [] 33) a48).bind fun a49=>(BL a49 33 (V.ref 3 [] 33)).bind fun a50=>if(List.all [(V.int .i64 171),a50] V.okE)=true then AQ 0 a49 (V.tup [a50,(V.int .i64 171)])else none)
  ((BL a17.2 33 (V.ref (List.length a14.2) [] 33)).bind fun a51=>(CJ (BI 32) 33 a17.2 (V.ref 3 [] 33) a51).bind fun a52=>(BL a52 33 (V.ref 3 [] 33)).bind fun a53=>if(List.all [(V.int .i64 0),a53] V.okE)=true then AQ 0 a52 (V.tup [a53,(V.int .i64 0)])else none))))) (fun(a54:V→Rv)=>(AO .neq a8 (V.int .i64 0)).bind fun a55=>V.ite a55 (a54 (V.bool true)) ((fA 33 29 2 (V.ref 2 [] 33)).bind fun a56=>(BL a9 29 a56).bind fun a57=>(EU a57).bind fun a58=>(fA 33 28 1 (V.ref 2 [] 33)).bind fun a59=>(BL a9 28 a59).bind fun a60=>(EU a60).bind fun a61=>(AO .neq a58 a61).bind fun a62=>a54 a62))else none else none else none:=
 Ai (by kernel_rfl)
def U7 (t0 t1 t5:V):Rv:=lp W 25 0 (cd 25 75) (bk 0 (sk 25 0 15 (lv 25 0))) ⟨[(0,t0),(1,t1),(5,t5)],[]⟩
theorem TM (t0 t1 t5:V):U7 t0 t1 t5=
 (EU (V.weak t0)).bind fun a4=>(AO .lss t5 a4).bind fun a5=>V.ite a5
  ((ET 9 (V.weak t0) t5).bind fun a6=>(AY [] 9 a6).bind fun a7=>(ET 9 (V.weak t1) t5).bind fun a8=>(AY [] 9 a8).bind fun a9=>(AO .neq a7 a9).bind fun a10=>V.ite a10
  (AQ 0 [] (V.bool false))
  ((AO .add t5 (V.int .i64 1)).bind fun a11=>U7 t0 t1 a11))
  (AQ 0 [] (V.bool true)):=
 Bz (by kernel_rfl)
theorem AMc (t0 t1:V):Cl 25 [t0,t1] []=
 (EU (V.weak t0)).bind fun a1=>(EU (V.weak t1)).bind fun a2=>(AO .neq a1 a2).bind fun a3=>V.ite a3
  (AQ 0 [] (V.bool false))
  (U7 t0 t1 (V.int .i64 0)):=
 Ai (by kernel_rfl)
def U8 (t0 t3:V):Rv:=lp W 27 0 (cd 27 37) (bk 0 (sk 27 0 7 (lv 27 0))) ⟨[(0,t0),(3,t3)],[]⟩
theorem L8 (t0 t3:V):U8 t0 t3=
 (EU (V.weak t0)).bind fun a1=>(AO .lss t3 a1).bind fun a2=>V.ite a2
  ((ET 9 (V.weak t0) t3).bind fun a3=>(AY [] 9 a3).bind fun a4=>(lnS a4).bind fun a5=>(AO .gtr a5 (V.int .i64 300)).bind fun a6=>V.ite a6
  (AQ 0 [] (V.bool false))
  ((AO .add t3 (V.int .i64 1)).bind fun a7=>U8 t0 a7))
  ((EU t0).bind fun a8=>(AO .leq a8 (V.int .i64 12)).bind fun a9=>AQ 0 [] a9):=
 Bz (by kernel_rfl)
theorem AMd (t0:V):Cl 27 [t0] []=
 U8 t0 (V.int .i64 0):=
 Ai (by kernel_rfl)
def U9 (t3 t4 t5 t8 t11 t28 t29 t30:V) (h:List V):Rv:=lp W 28 0 (cd 28 151) (bk 0 (sk 28 0 31 (lv 28 0))) ⟨[(3,t3),(4,t4),(5,t5),(8,t8),(11,t11),(28,t28),(29,t29),(30,t30)],h⟩
theorem FI (t3 t4 t5 t8 t11 t28 t29 t30:V) (h:List V):U9 t3 t4 t5 t8 t11 t28 t29 t30 h=
 (AO .lss t30 t29).bind fun a12=>V.ite a12
  ((ET 9 t28 t30).bind fun a13=>(AY h 9 a13).bind fun a14=>(BL h 24 t4).bind fun a15=>(AY h 26 t5).bind fun a16=>(BL h 33 t11).bind fun a17=>(Cl 23 (AA h [a15,a16,a17,a14]) []).bind fun a18=>(Fz a18.1 0).bind fun a19=>(ext a18.1 1).bind fun a20=>(CJ (BI 32) 33 (h++[(V.agg 32 [(V.int .i64 0),(V.lst 4 .nil []),(V.lst 55 .nil []),(V.lst 58 .nil []),(V.lst 108 .nil [])])]) (V.ref (List.length h) [] 33) a19).bind fun a21=>(AO .neq a20 (V.int .i64 0)).bind fun a22=>V.ite a22
  ((BL a21 33 t11).bind fun a23=>(CJ (BI 32) 33 a21 t8 a23).bind fun a24=>(BL a24 33 t8).bind fun a25=>if(List.all [(V.int .i64 0),t30,a25] V.okE)=true then AQ 0 a24 (V.tup [a25,t30,(V.int .i64 0)])else none)
  ((BL a21 33 (V.ref (List.length h) [] 33)).bind fun a26=>(CJ (BI 32) 33 a21 t11 a26).bind fun a27=>(AO .add t30 (V.int .i64 1)).bind fun a28=>if Ac (List.length h) [t3,t4,t5,t8,t11,t28,t29,a28]=true then U9 t3 t4 t5 t8 t11 t28 t29 a28 (List.take (List.length h) a27)else none))
  ((BL h 33 t11).bind fun a29=>(EU t3).bind fun a30=>(CJ (BI 32) 33 h t8 a29).bind fun a31=>(BL a31 33 t8).bind fun a32=>if(List.all [(V.int .i64 0),a30,a32] V.okE)=true then AQ 0 a31 (V.tup [a32,a30,(V.int .i64 0)])else none):=
 Bz (by kernel_rfl)
theorem ZP (t0 t1 t2 t3:V):Cl 28 [t0,t1,t2,t3] []=
 if((BI 23) (V.weak t0)&&V.under 0 (V.weak t0))=true then if((BI 25) t1&&V.under 1 t1)=true then(BL [(V.weak t0),t1,(V.agg 32 [(V.int .i64 0),(V.lst 4 .nil []),(V.lst 55 .nil []),(V.lst 58 .nil []),(V.lst 108 .nil [])])] 24 (V.ref 0 [] 24)).bind fun a1=>(AY [(V.weak t0),t1,(V.agg 32 [(V.int .i64 0),(V.lst 4 .nil []),(V.lst 55 .nil []),(V.lst 58 .nil []),(V.lst 108 .nil [])])] 26 (V.ref 1 [] 26)).bind fun a2=>(Cl 10 (AA [(V.weak t0),t1,(V.agg 32 [(V.int .i64 0),(V.lst 4 .nil []),(V.lst 55 .nil []),(V.lst 58 .nil []),(V.lst 108 .nil [])])] [a1,a2,t2]) []).bind fun a3=>(Fz a3.1 0).bind fun a4=>(ext a3.1 1).bind fun a5=>(CJ (BI 32) 33 [(V.weak t0),t1,(V.agg 32 [(V.int .i64 0),(V.lst 4 .nil []),(V.lst 55 .nil []),(V.lst 58 .nil []),(V.lst 108 .nil [])]),(V.agg 32 [(V.int .i64 0),(V.lst 4 .nil []),(V.lst 55 .nil []),(V.lst 58 .nil []),(V.lst 108 .nil [])])] (V.ref 3 [] 33) a4).bind fun a6=>(AO .neq a5 (V.int .i64 0)).bind fun a7=>V.ite a7
  (((ck [] [(V.int .i64 0),(V.lst 4 .nil []),(V.lst 55 .nil []),(V.lst 58 .nil []),(V.lst 108 .nil [])]).map (.agg 32)).bind fun a8=>(CJ (BI 32) 33 a6 (V.ref 2 [] 33) a8).bind fun a9=>(BL a9 33 (V.ref 2 [] 33)).bind fun a10=>if(List.all [a5,(V.int .i64 0),a10] V.okE)=true then AQ 0 a9 (V.tup [a10,(V.int .i64 0),a5])else none)
  ((EU (V.weak t3)).bind fun a11=>U9 t3 (V.ref 0 [] 24) (V.ref 1 [] 26) (V.ref 2 [] 33) (V.ref 3 [] 33) (V.weak t3) a11 (V.int .i64 0) a6)else none else none:=
 Ai (by kernel_rfl)
theorem AMe (t0 t1:V):Cl 32 [t0,t1] []=
 if((BI 23) (V.weak t0)&&V.under 0 (V.weak t0))=true then if((BI 25) t1&&V.under 1 t1)=true then jn (fun a1=>
 V.ite a1
  (AQ 0 [(V.weak t0),t1] (V.int .i64 70))
  (AQ 0 [(V.weak t0),t1] (V.int .i64 0))) (fun(a2:V→Rv)=>(BL [(V.weak t0),t1] 24 (V.ref 0 [] 24)).bind fun a3=>(Cl 61 (AA [(V.weak t0),t1] [a3]) []).bind fun a4=>(AO .neq a4.1 (V.int .i64 0)).bind fun a5=>V.ite a5 (a2 (V.bool true)) ((fA 26 9 0 (V.ref 1 [] 26)).bind fun a6=>(AY [(V.weak t0),t1] 9 a6).bind fun a7=>(Cl 62 (AA [(V.weak t0),t1] [a7]) []).bind fun a8=>(un .not a8.1).bind fun a9=>V.ite a9 (a2 (V.bool true)) ((fA 26 3 1 (V.ref 1 [] 26)).bind fun a10=>(AY [(V.weak t0),t1] 3 a10).bind fun a11=>(AO .lss a11 (V.int .i64 0)).bind fun a12=>V.ite a12 (a2 (V.bool true)) ((fA 26 3 1 (V.ref 1 [] 26)).bind fun a13=>(AY [(V.weak t0),t1] 3 a13).bind fun a14=>(fA 24 3 0 (V.ref 0 [] 24)).bind fun a15=>(AY [(V.weak t0),t1] 3 a15).bind fun a16=>(AO .geq a14 a16).bind fun a17=>V.ite a17 (a2 (V.bool true)) ((fA 26 3 2 (V.ref 1 [] 26)).bind fun a18=>(AY [(V.weak t0),t1] 3 a18).bind fun a19=>(AO .lss a19 (V.int .i64 1)).bind fun a20=>V.ite a20 (a2 (V.bool true)) ((fA 26 3 2 (V.ref 1 [] 26)).bind fun a21=>(AY [(V.weak t0),t1] 3 a21).bind fun a22=>(AO .gtr a22 (V.int .i64 64)).bind fun a23=>a2 a23))))))else none else none:=
 Ai (by kernel_rfl)
def Oz (t8 t9 t25 t26:V) (h:List V):Rv:=lp W 33 0 (cd 33 303) (bk 0 (sk 33 0 63 (lv 33 0))) ⟨[(8,t8),(9,t9),(25,t25),(26,t26)],h⟩
theorem TN (t8 t9 t25 t26:V) (h:List V):Oz t8 t9 t25 t26 h=
 (AO .lss t26 t25).bind fun a3=>V.ite a3
  (CG P DZ W t8 [t26] h fun a4 a5=>if V.noOwn a4=true then V.ite a4
  ((Hy 3 false (ck [(KW .i64) t26] [t26])).bind fun a6=>(Gi 3 (KW .i64) false a5 t9 a6).bind fun a7=>(AO .add t26 (V.int .i64 1)).bind fun a8=>Oz t8 a7 t25 a8 a5)
  ((AO .add t26 (V.int .i64 1)).bind fun a9=>Oz t8 t9 t25 a9 a5)else none)
  (if(List.all [(V.int .i64 0),t9] V.okE)=true then AQ 0 h (V.tup [t9,(V.int .i64 0)])else none):=
 Bz (by kernel_rfl)
theorem AMf (t0 t1 t2:V):Cl 33 [t0,t1,t2] []=
 if((KW .i64) t1&&V.under 0 t1)=true then if((KW .i64) t2&&V.under 1 t2)=true then jn (fun a1=>
 V.ite a1
  (if(List.all [(V.int .i64 60),(V.weak (V.lst 3 .nil []))] V.okE)=true then AQ 0 [t1,t2] (V.tup [(V.weak (V.lst 3 .nil [])),(V.int .i64 60)])else none)
  ((if(List.all [(V.ref 0 [] 3),(V.ref 1 [] 3)] V.capOk)=true then some (V.clo 64 [(V.ref 0 [] 3),(V.ref 1 [] 3)])else none).bind fun a2=>Oz a2 (V.weak (V.lst 3 .nil [])) t0 (V.int .i64 0) [t1,t2])) (fun(a10:V→Rv)=>(AY [t1,t2] 3 (V.ref 0 [] 3)).bind fun a11=>(Cl 63 (AA [t1,t2] [t0,a11]) []).bind fun a12=>(un .not a12.1).bind fun a13=>V.ite a13 (a10 (V.bool true)) ((AY [t1,t2] 3 (V.ref 1 [] 3)).bind fun a14=>(AO .lss a14 (V.int .i64 0)).bind fun a15=>V.ite a15 (a10 (V.bool true)) ((AY [t1,t2] 3 (V.ref 1 [] 3)).bind fun a16=>(AY [t1,t2] 3 (V.ref 0 [] 3)).bind fun a17=>(AO .geq a16 a17).bind fun a18=>a10 a18)))else none else none:=
 Ai (by kernel_rfl)
theorem AMg (t0 t1:V):Cl 34 [t0,t1] []=
 if((BI 25) t0&&V.under 0 t0)=true then(fA 26 9 0 (V.ref 0 [] 26)).bind fun a1=>(AY [t0,(V.agg 80 [(V.int .i64 0),(V.int .i64 0),(V.bool false),(V.bool false),(V.int .i64 0)])] 9 a1).bind fun a2=>(Cl 62 (AA [t0,(V.agg 80 [(V.int .i64 0),(V.int .i64 0),(V.bool false),(V.bool false),(V.int .i64 0)])] [a2]) []).bind fun a3=>(un .not a3.1).bind fun a4=>V.ite a4
  (((ck [] [(V.int .i64 0),(V.int .i64 0),(V.bool false),(V.bool false),(V.int .i64 0)]).map (.agg 80)).bind fun a5=>(CJ (BI 80) 81 [t0,(V.agg 80 [(V.int .i64 0),(V.int .i64 0),(V.bool false),(V.bool false),(V.int .i64 0)])] (V.ref 1 [] 81) a5).bind fun a6=>(AY a6 81 (V.ref 1 [] 81)).bind fun a7=>AQ 0 a6 a7)
  (((ck [(KW .i64) t1,tyB (V.bool true)] [t1,(V.int .i64 0),(V.bool true),(V.bool false),(V.int .i64 0)]).map (.agg 80)).bind fun a8=>(CJ (BI 80) 81 [t0,(V.agg 80 [(V.int .i64 0),(V.int .i64 0),(V.bool false),(V.bool false),(V.int .i64 0)]),(V.agg 80 [(V.int .i64 0),(V.int .i64 0),(V.bool false),(V.bool false),(V.int .i64 0)])] (V.ref 2 [] 81) a8).bind fun a9=>(fA 26 9 0 (V.ref 0 [] 26)).bind fun a10=>(AY a9 9 a10).bind fun a11=>(AO .eql a11 (V.str [109,97,120])).bind fun a12=>V.ite a12
  ((AO .mul (V.int .i64 37) t1).bind fun a13=>(AO .add a13 (V.int .i64 11)).bind fun a14=>(AO .rem a14 (V.int .i64 64)).bind fun a15=>(fA 81 2 1 (V.ref 2 [] 81)).bind fun a16=>(CJ (KW .i64) 2 a9 a16 a15).bind fun a17=>(AY a17 81 (V.ref 2 [] 81)).bind fun a18=>(CJ (BI 80) 81 a17 (V.ref 1 [] 81) a18).bind fun a19=>(AY a19 81 (V.ref 1 [] 81)).bind fun a20=>AQ 0 a19 a20)
  ((AO .eql a11 (V.str [108,97,98,101,108])).bind fun a21=>V.ite a21
  ((fA 81 2 1 (V.ref 2 [] 81)).bind fun a22=>(CJ (KW .i64) 2 a9 a22 t1).bind fun a23=>(AY a23 81 (V.ref 2 [] 81)).bind fun a24=>(CJ (BI 80) 81 a23 (V.ref 1 [] 81) a24).bind fun a25=>(AY a25 81 (V.ref 1 [] 81)).bind fun a26=>AQ 0 a25 a26)
  ((AO .eql a11 (V.str [98,102,115])).bind fun a27=>V.ite a27
  ((fA 26 3 1 (V.ref 0 [] 26)).bind fun a28=>(AY a9 3 a28).bind fun a29=>(AO .neq t1 a29).bind fun a30=>V.ite a30
  ((fA 81 2 1 (V.ref 2 [] 81)).bind fun a31=>(CJ (KW .i64) 2 a9 a31 (V.int .i64 (-1))).bind fun a32=>(AY a32 81 (V.ref 2 [] 81)).bind fun a33=>(CJ (BI 80) 81 a32 (V.ref 1 [] 81) a33).bind fun a34=>(AY a34 81 (V.ref 1 [] 81)).bind fun a35=>AQ 0 a34 a35)
  ((AY a9 81 (V.ref 2 [] 81)).bind fun a36=>(CJ (BI 80) 81 a9 (V.ref 1 [] 81) a36).bind fun a37=>(AY a37 81 (V.ref 1 [] 81)).bind fun a38=>AQ 0 a37 a38))
  ((AO .eql a11 (V.str [115,115,115,112])).bind fun a39=>V.ite a39
  ((fA 26 3 1 (V.ref 0 [] 26)).bind fun a40=>(AY a9 3 a40).bind fun a41=>(AO .neq t1 a41).bind fun a42=>V.ite a42
  ((fA 81 2 1 (V.ref 2 [] 81)).bind fun a43=>(CJ (KW .i64) 2 a9 a43 (V.int .i64 (-1))).bind fun a44=>(AY a44 81 (V.ref 2 [] 81)).bind fun a45=>(CJ (BI 80) 81 a44 (V.ref 1 [] 81) a45).bind fun a46=>(AY a46 81 (V.ref 1 [] 81)).bind fun a47=>AQ 0 a46 a47)
  ((AY a9 81 (V.ref 2 [] 81)).bind fun a48=>(CJ (BI 80) 81 a9 (V.ref 1 [] 81) a48).bind fun a49=>(AY a49 81 (V.ref 1 [] 81)).bind fun a50=>AQ 0 a49 a50))
  ((AO .eql a11 (V.str [114,97,110,107])).bind fun a51=>V.ite a51
  ((fA 81 2 1 (V.ref 2 [] 81)).bind fun a52=>(CJ (KW .i64) 2 a9 a52 (V.int .i64 65536)).bind fun a53=>(AY a53 81 (V.ref 2 [] 81)).bind fun a54=>(CJ (BI 80) 81 a53 (V.ref 1 [] 81) a54).bind fun a55=>(AY a55 81 (V.ref 1 [] 81)).bind fun a56=>AQ 0 a55 a56)
  ((AO .eql a11 (V.str [119,97,108,107,115])).bind fun a57=>V.ite a57
  ((fA 81 2 1 (V.ref 2 [] 81)).bind fun a58=>(CJ (KW .i64) 2 a9 a58 (V.int .i64 1)).bind fun a59=>(AY a59 81 (V.ref 2 [] 81)).bind fun a60=>(CJ (BI 80) 81 a59 (V.ref 1 [] 81) a60).bind fun a61=>(AY a61 81 (V.ref 1 [] 81)).bind fun a62=>AQ 0 a61 a62)
  ((AY a9 81 (V.ref 2 [] 81)).bind fun a63=>(CJ (BI 80) 81 a9 (V.ref 1 [] 81) a63).bind fun a64=>(AY a64 81 (V.ref 1 [] 81)).bind fun a65=>AQ 0 a64 a65)))))))else none:=
 Ai (by kernel_rfl)
theorem AMh (t0:V):Cl 35 [t0] []=
 (Cl 36 (AA [(V.agg 54 (List.replicate 32 (V.int .u8 0)))] [t0]) []).bind fun a1=>(Cl 66 (AA [(V.agg 54 (List.replicate 32 (V.int .u8 0)))] [a1.1]) []).bind fun a2=>(CJ (BI 54) 55 [(V.agg 54 (List.replicate 32 (V.int .u8 0)))] (V.ref 0 [] 55) a2.1).bind fun a3=>(AY a3 55 (V.ref 0 [] 55)).bind fun a4=>AQ 0 a3 a4:=
 Ai (by kernel_rfl)
def VA (t3 t9 t10 t11:V) (h:List V):Rv:=lp W 36 0 (cd 36 75) (bk 0 (sk 36 0 15 (lv 36 0))) ⟨[(3,t3),(9,t9),(10,t10),(11,t11)],h⟩
theorem TP (t3 t9 t10 t11:V) (h:List V):VA t3 t9 t10 t11 h=
 (AO .lss t11 t10).bind fun a5=>V.ite a5
  ((ET 81 t9 t11).bind fun a6=>(AY h 81 a6).bind fun a7=>(CJ (BI 80) 81 (h++[(V.agg 80 [(V.int .i64 0),(V.int .i64 0),(V.bool false),(V.bool false),(V.int .i64 0)])]) (V.ref (List.length h) [] 81) a7).bind fun a8=>(AY a8 81 (V.ref (List.length h) [] 81)).bind fun a9=>(Cl 67 (AA a8 [a9]) []).bind fun a10=>(ET 9 (V.weak t3) t11).bind fun a11=>(CJ tyS 9 a8 a11 a10.1).bind fun a12=>(AO .add t11 (V.int .i64 1)).bind fun a13=>if Ac (List.length h) [t3,t9,t10,a13]=true then VA t3 t9 t10 a13 (List.take (List.length h) a12)else none)
  (AQ 0 h t3):=
 Bz (by kernel_rfl)
theorem AMi (t0:V):Cl 36 [t0] []=
 (EU (V.weak t0)).bind fun a1=>(mkL 9 (V.str []) a1 a1).bind fun a2=>(DV [] a2).bind fun a3=>(EU t0).bind fun a4=>VA a3.1 t0 a4 (V.int .i64 0) a3.2:=
 Ai (by kernel_rfl)
theorem AMj (t0 t1:V):Cl 37 [t0,t1] []=
 if((BI 23) (V.weak t0)&&V.under 0 (V.weak t0))=true then if((BI 25) t1&&V.under 1 t1)=true then jn (fun a1=>
 AQ 0 [(V.weak t0),t1] a1) (fun(a2:V→Rv)=>(BL [(V.weak t0),t1] 24 (V.ref 0 [] 24)).bind fun a3=>(Cl 68 (AA [(V.weak t0),t1] [a3]) []).bind fun a4=>(AO .eql a4.1 (V.int .i64 0)).bind fun a5=>V.ite a5 ((fA 26 9 0 (V.ref 1 [] 26)).bind fun a6=>(AY [(V.weak t0),t1] 9 a6).bind fun a7=>(Cl 69 (AA [(V.weak t0),t1] [a7]) []).bind fun a8=>V.ite a8.1 ((fA 26 3 1 (V.ref 1 [] 26)).bind fun a9=>(AY [(V.weak t0),t1] 3 a9).bind fun a10=>(AO .geq a10 (V.int .i64 0)).bind fun a11=>V.ite a11 ((fA 26 3 1 (V.ref 1 [] 26)).bind fun a12=>(AY [(V.weak t0),t1] 3 a12).bind fun a13=>(fA 24 3 0 (V.ref 0 [] 24)).bind fun a14=>(AY [(V.weak t0),t1] 3 a14).bind fun a15=>(AO .lss a13 a15).bind fun a16=>V.ite a16 ((fA 26 3 2 (V.ref 1 [] 26)).bind fun a17=>(AY [(V.weak t0),t1] 3 a17).bind fun a18=>(AO .geq a18 (V.int .i64 1)).bind fun a19=>V.ite a19 ((fA 26 3 2 (V.ref 1 [] 26)).bind fun a20=>(AY [(V.weak t0),t1] 3 a20).bind fun a21=>(AO .leq a21 (V.int .i64 64)).bind fun a22=>a2 a22) (a2 (V.bool false))) (a2 (V.bool false))) (a2 (V.bool false))) (a2 (V.bool false))) (a2 (V.bool false)))else none else none:=
 Ai (by kernel_rfl)
def VB (t0 t1 t5:V):Rv:=lp W 38 0 (cd 38 75) (bk 0 (sk 38 0 15 (lv 38 0))) ⟨[(0,t0),(1,t1),(5,t5)],[]⟩
theorem TQ (t0 t1 t5:V):VB t0 t1 t5=
 (EU (V.weak t0)).bind fun a4=>(AO .lss t5 a4).bind fun a5=>V.ite a5
  ((ET 108 (V.weak t0) t5).bind fun a6=>(AY [] 108 a6).bind fun a7=>(ET 108 (V.weak t1) t5).bind fun a8=>(AY [] 108 a8).bind fun a9=>(U2 (BI 107) .neq a7 a9).bind fun a10=>V.ite a10
  (AQ 0 [] (V.bool false))
  ((AO .add t5 (V.int .i64 1)).bind fun a11=>VB t0 t1 a11))
  (AQ 0 [] (V.bool true)):=
 Bz (by kernel_rfl)
theorem AMk (t0 t1:V):Cl 38 [t0,t1] []=
 (EU (V.weak t0)).bind fun a1=>(EU (V.weak t1)).bind fun a2=>(AO .neq a1 a2).bind fun a3=>V.ite a3
  (AQ 0 [] (V.bool false))
  (VB t0 t1 (V.int .i64 0)):=
 Ai (by kernel_rfl)
def O0 (t0 t1 t2 t7 t8:V):Rv:=lp W 39 0 (cd 39 75) (bk 0 (sk 39 0 15 (lv 39 0))) ⟨[(0,t0),(1,t1),(2,t2),(7,t7),(8,t8)],[]⟩
theorem TR (t0 t1 t2 t7 t8:V):O0 t0 t1 t2 t7 t8=
 (AO .lss t8 t0).bind fun a2=>V.ite a2
  ((Cl 70 (AA [] [t8,t1]) []).bind fun a3=>(AO .eql a3.1 t2).bind fun a4=>V.ite a4
  ((Hy 3 false (ck [(KW .i64) t8] [t8])).bind fun a5=>(Gi 3 (KW .i64) false [] t7 a5).bind fun a6=>(AO .add t8 (V.int .i64 1)).bind fun a7=>O0 t0 t1 t2 a6 a7)
  ((AO .add t8 (V.int .i64 1)).bind fun a8=>O0 t0 t1 t2 t7 a8))
  (AQ 0 [] t7):=
 Bz (by kernel_rfl)
theorem AMl (t0 t1 t2:V):Cl 39 [t0,t1,t2] []=
 (Hy 3 false (ck [] [])).bind fun a1=>O0 t0 t1 t2 a1 (V.int .i64 0):=
 Ai (by kernel_rfl)
theorem AMm (t0 t1:V):Cl 40 [t0,t1] []=
 if((BI 25) t0&&V.under 0 t0)=true then((ck [(KW .i64) t1,tyB (V.bool true)] [t1,(V.int .i64 0),(V.bool true),(V.bool false),(V.int .i64 0)]).map (.agg 80)).bind fun a1=>(CJ (BI 80) 81 [t0,(V.agg 80 [(V.int .i64 0),(V.int .i64 0),(V.bool false),(V.bool false),(V.int .i64 0)]),(V.agg 80 [(V.int .i64 0),(V.int .i64 0),(V.bool false),(V.bool false),(V.int .i64 0)])] (V.ref 2 [] 81) a1).bind fun a2=>(fA 26 9 0 (V.ref 0 [] 26)).bind fun a3=>(AY a2 9 a3).bind fun a4=>(Cl 69 (AA a2 [a4]) []).bind fun a5=>(un .not a5.1).bind fun a6=>V.ite a6
  (((ck [] [(V.int .i64 0),(V.int .i64 0),(V.bool false),(V.bool false),(V.int .i64 0)]).map (.agg 80)).bind fun a7=>(CJ (BI 80) 81 a2 (V.ref 1 [] 81) a7).bind fun a8=>(AY a8 81 (V.ref 1 [] 81)).bind fun a9=>AQ 0 a8 a9)
  ((fA 26 9 0 (V.ref 0 [] 26)).bind fun a10=>(AY a2 9 a10).bind fun a11=>(AO .eql a11 (V.str [109,97,120])).bind fun a12=>V.ite a12
  ((AO .mul (V.int .i64 37) t1).bind fun a13=>(AO .add a13 (V.int .i64 11)).bind fun a14=>(AO .rem a14 (V.int .i64 64)).bind fun a15=>(fA 81 2 1 (V.ref 2 [] 81)).bind fun a16=>(CJ (KW .i64) 2 a2 a16 a15).bind fun a17=>(AY a17 81 (V.ref 2 [] 81)).bind fun a18=>(CJ (BI 80) 81 a17 (V.ref 1 [] 81) a18).bind fun a19=>(AY a19 81 (V.ref 1 [] 81)).bind fun a20=>AQ 0 a19 a20)
  ((fA 26 9 0 (V.ref 0 [] 26)).bind fun a21=>(AY a2 9 a21).bind fun a22=>(AO .eql a22 (V.str [108,97,98,101,108])).bind fun a23=>V.ite a23
  ((fA 81 2 1 (V.ref 2 [] 81)).bind fun a24=>(CJ (KW .i64) 2 a2 a24 t1).bind fun a25=>(AY a25 81 (V.ref 2 [] 81)).bind fun a26=>(CJ (BI 80) 81 a25 (V.ref 1 [] 81) a26).bind fun a27=>(AY a27 81 (V.ref 1 [] 81)).bind fun a28=>AQ 0 a27 a28)
  (jn (fun a29=>
 V.ite a29
  ((fA 81 2 1 (V.ref 2 [] 81)).bind fun a30=>(CJ (KW .i64) 2 a2 a30 (V.int .i64 (-1))).bind fun a31=>(AY a31 81 (V.ref 2 [] 81)).bind fun a32=>(CJ (BI 80) 81 a31 (V.ref 1 [] 81) a32).bind fun a33=>(AY a33 81 (V.ref 1 [] 81)).bind fun a34=>AQ 0 a33 a34)
  ((fA 26 9 0 (V.ref 0 [] 26)).bind fun a35=>(AY a2 9 a35).bind fun a36=>(AO .eql a36 (V.str [114,97,110,107])).bind fun a37=>V.ite a37
  ((fA 81 2 1 (V.ref 2 [] 81)).bind fun a38=>(CJ (KW .i64) 2 a2 a38 (V.int .i64 65536)).bind fun a39=>(AY a39 81 (V.ref 2 [] 81)).bind fun a40=>(CJ (BI 80) 81 a39 (V.ref 1 [] 81) a40).bind fun a41=>(AY a41 81 (V.ref 1 [] 81)).bind fun a42=>AQ 0 a41 a42)
  ((fA 26 9 0 (V.ref 0 [] 26)).bind fun a43=>(AY a2 9 a43).bind fun a44=>(AO .eql a44 (V.str [119,97,108,107,115])).bind fun a45=>V.ite a45
  ((fA 81 2 1 (V.ref 2 [] 81)).bind fun a46=>(CJ (KW .i64) 2 a2 a46 (V.int .i64 1)).bind fun a47=>(AY a47 81 (V.ref 2 [] 81)).bind fun a48=>(CJ (BI 80) 81 a47 (V.ref 1 [] 81) a48).bind fun a49=>(AY a49 81 (V.ref 1 [] 81)).bind fun a50=>AQ 0 a49 a50)
  ((AY a2 81 (V.ref 2 [] 81)).bind fun a51=>(CJ (BI 80) 81 a2 (V.ref 1 [] 81) a51).bind fun a52=>(AY a52 81 (V.ref 1 [] 81)).bind fun a53=>AQ 0 a52 a53)))) (fun(a54:V→Rv)=>(fA 26 9 0 (V.ref 0 [] 26)).bind fun a55=>(AY a2 9 a55).bind fun a56=>(AO .eql a56 (V.str [115,115,115,112])).bind fun a57=>V.ite a57 ((fA 26 3 1 (V.ref 0 [] 26)).bind fun a58=>(AY a2 3 a58).bind fun a59=>(AO .neq t1 a59).bind fun a60=>a54 a60) ((fA 26 9 0 (V.ref 0 [] 26)).bind fun a61=>(AY a2 9 a61).bind fun a62=>(AO .eql a62 (V.str [98,102,115])).bind fun a63=>V.ite a63 ((fA 26 3 1 (V.ref 0 [] 26)).bind fun a64=>(AY a2 3 a64).bind fun a65=>(AO .neq t1 a65).bind fun a66=>a54 a66) (a54 (V.bool false)))))))else none:=
 Ai (by kernel_rfl)
theorem AMn (t0:V):Cl 41 [t0] []=
 (Cl 42 (AA [(V.agg 54 (List.replicate 32 (V.int .u8 0)))] [t0]) []).bind fun a1=>(Cl 71 (AA [(V.agg 54 (List.replicate 32 (V.int .u8 0)))] [a1.1]) []).bind fun a2=>(CJ (BI 54) 55 [(V.agg 54 (List.replicate 32 (V.int .u8 0)))] (V.ref 0 [] 55) a2.1).bind fun a3=>(AY a3 55 (V.ref 0 [] 55)).bind fun a4=>AQ 0 a3 a4:=
 Ai (by kernel_rfl)
def VD (t0 t3 t4:V):Rv:=lp W 42 0 (cd 42 75) (bk 0 (sk 42 0 15 (lv 42 0))) ⟨[(0,t0),(3,t3),(4,t4)],[]⟩
theorem TS (t0 t3 t4:V):VD t0 t3 t4=
 (EU (V.weak t0)).bind fun a2=>(AO .lss t4 a2).bind fun a3=>V.ite a3
  ((ET 81 (V.weak t0) t4).bind fun a4=>(AY [] 81 a4).bind fun a5=>(Cl 72 (AA [] [a5]) []).bind fun a6=>(Hy 9 false (ck [tyS a6.1] [a6.1])).bind fun a7=>(Gi 9 tyS false [] t3 a7).bind fun a8=>(AO .add t4 (V.int .i64 1)).bind fun a9=>VD t0 a8 a9)
  (AQ 0 [] t3):=
 Bz (by kernel_rfl)
theorem AMo (t0:V):Cl 42 [t0] []=
 (Hy 9 false (ck [] [])).bind fun a1=>VD t0 a1 (V.int .i64 0):=
 Ai (by kernel_rfl)
def AE7 (k:Rv):Rv:=
 k
def AE8 (h:List V) (k:V→List V→Rv):Rv:=
 (WU P 125 []).bind fun t1=>if(BJ P 125 (V.weak t1)&&V.under (List.length h) (V.weak t1))=true then k (V.ref (List.length h) [] 125) (h++[(V.weak t1)])else none
theorem AMp (h:List V):Cl 45 [] h=
 AE7 (AE8 h fun a1 a2=>
  Wj a2 a1):=
 Ai (by kernel_rfl)
def VE (t0 t1:V) (n:Nat) (h:List V):Rv:=lp W 46 0 (cd 46 8) (bk 0 (sk 46 0 3 (lv 46 n))) ⟨[(0,t0),(1,t1)],h⟩
def AE9 (t1:V) (k:V→Rv):Rv:=
 (AO .geq t1 (V.int .u64 128)).bind fun t5=>k t5
def AFA (t0 t1:V) (h:List V) (k:List V→Rv):Rv:=
 (Bj t0).bind fun t10=>(Ap P 125 0 t10).bind fun t11=>(BN h 68 t11).bind fun r=>(conv P r.2 93 5 t1).bind fun t14=>(AO .or t14 (V.int .u8 128)).bind fun t15=>(Bv P 68 1 [(0,t15)]).bind fun t16=>(DW P 68 r.2 r.1 t16).bind fun t17=>(Bj t0).bind fun t18=>(Ap P 125 0 t18).bind fun t19=>(D8 P r.2 68 t19 t17).bind fun a1=>k a1
def AFB (t1:V) (k:V→Rv):Rv:=
 (AO .shr t1 (V.int .u64 7)).bind fun t7=>k t7
def AFC (t0 t1:V) (h:List V) (k:List V→Rv):Rv:=
 (Bj t0).bind fun t22=>(Ap P 125 0 t22).bind fun t23=>(BN h 68 t23).bind fun r=>(conv P r.2 93 5 t1).bind fun t26=>(Bv P 68 1 [(0,t26)]).bind fun t27=>(DW P 68 r.2 r.1 t27).bind fun t28=>(Bj t0).bind fun t29=>(Ap P 125 0 t29).bind fun t30=>(D8 P r.2 68 t30 t28).bind fun a1=>k a1
theorem ADf (t0 t1:V) (n:Nat) (h:List V):VE t0 t1 n h=
 AE9 t1 fun a1=>
  V.ite a1
  (AFA t0 t1 h fun a2=>
  AFB t1 fun a3=>
  VE t0 a3 n a2)
  (AFC t0 t1 h fun a4=>
  if(List.all [] V.okE)=true then AQ n a4 (V.tup [])else none):=
 Bz (by kernel_rfl)
theorem AMq (t0 t1:V) (h:List V):Cl 46 [t0,t1] h=
 VE t0 t1 (List.length h) h:=
 Ai (by kernel_rfl)
def AFD (t0 t1:V) (h:List V) (k:List V→Rv):Rv:=
 (lenV P 9 t1).bind fun t6=>(conv P h 3 93 t6).bind fun t7=>(Cl 46 (AU [t0,t7]) h).bind fun r=>k r.2
def AFE (t0 t1:V) (h:List V) (k:List V→Rv):Rv:=
 (Bj t0).bind fun t11=>(Ap P 125 0 t11).bind fun t12=>(BN h 68 t12).bind fun r=>(DW P 68 r.2 r.1 t1).bind fun t15=>(Bj t0).bind fun t16=>(Ap P 125 0 t16).bind fun t17=>(D8 P r.2 68 t17 t15).bind fun a1=>k a1
theorem AMr (t0 t1:V) (h:List V):Cl 48 [t0,t1] h=
 AFD t0 t1 h fun a1=>
  AFE t0 t1 a1 fun a2=>
  if(List.all [] V.okE)=true then AQ (List.length h) a2 (V.tup [])else none:=
 Ai (by kernel_rfl)
def AFF (k:Rv):Rv:=
 k
def AFG (t0:V) (h:List V) (k:V→Rv):Rv:=
 (Cl 74 (AA h [(V.weak t0)]) []).bind fun r=>k r.1
def AFH (t4:V) (k:V→Rv):Rv:=
 (AO .neq t4 (V.int .i64 0)).bind fun t11=>k t11
def AFI (t4:V) (k:V→V→Rv):Rv:=
 k (V.str []) t4
def AFJ (h:List V) (k:V→List V→Rv):Rv:=
 (Cl 45 (AU []) h).bind fun r=>k r.1 r.2
def AFK (t0 t5:V) (h:List V) (k:List V→Rv):Rv:=
 (lenV P 31 (V.weak t0)).bind fun t16=>(conv P h 3 93 t16).bind fun t17=>(Cl 46 (AU [t5,t17]) h).bind fun r=>k r.2
def AFL (t0:V) (h:List V) (k:V→V→V→Rv):Rv:=
 (Cl 75 (AA h [t0]) []).bind fun r=>(lenV P 58 r.1).bind fun t21=>k r.1 t21 (V.int .i64 0)
def VF (t5 t20 t21 t22:V) (h:List V):Rv:=lp W 49 0 (cd 49 303) (bk 0 (sk 49 0 63 (lv 49 0))) ⟨[(5,t5),(20,t20),(21,t21),(22,t22)],h⟩
def ZQ (t21 t22:V) (k:V→Rv):Rv:=
 (AO .lss t22 t21).bind fun t23=>k t23
def AFM (t20 t22:V) (h:List V) (k:V→Rv):Rv:=
 (AX P 58 t20 t22).bind fun t24=>(AY h 9 t24).bind fun t25=>k t25
def AFN (t5 t7:V) (h:List V) (k:List V→Rv):Rv:=
 (Cl 48 (AU [t5,t7]) h).bind fun r=>k r.2
def AAm (t22:V) (k:V→Rv):Rv:=
 (AO .add t22 (V.int .i64 1)).bind fun t29=>k t29
def AAn (t5:V) (h:List V) (k:V→V→List V→Rv):Rv:=
 (Cl 50 (AU [t5]) h).bind fun r=>k r.1 (V.int .i64 0) r.2
theorem TT (t5 t20 t21 t22:V) (h:List V):VF t5 t20 t21 t22 h=
 ZQ t21 t22 fun a11=>
  V.ite a11
  (AFM t20 t22 h fun a12=>
  AFN t5 a12 h fun a13=>
  AAm t22 fun a14=>
  VF t5 t20 t21 a14 a13)
  (AAn t5 h fun a15 a16 a17=>
  if(List.all [a16,a15] V.okE)=true then AQ 0 a17 (V.tup [a15,a16])else none):=
 Bz (by kernel_rfl)
theorem AMs (t0:V):Cl 49 [t0] []=
 AFF (AFG t0 [] fun a1=>
  AFH a1 fun a2=>
  V.ite a2
  (AFI a1 fun a3 a4=>
  if(List.all [a4,a3] V.okE)=true then AQ 0 [] (V.tup [a3,a4])else none)
  (AFJ [] fun a5 a6=>
  AFK t0 a5 a6 fun a7=>
  AFL t0 a7 fun a8 a9 a10=>
  VF a5 a8 a9 a10 a7)):=
 Ai (by kernel_rfl)
def AFO (k:Rv):Rv:=
 k
def AFP (t0:V) (h:List V) (k:V→Rv):Rv:=
 (Bj t0).bind fun t4=>(Ap P 125 0 t4).bind fun t5=>(BL h 68 t5).bind fun t6=>(conv P h 68 9 t6).bind fun t7=>k t7
theorem AMt (t0:V) (h:List V):Cl 50 [t0] h=
 AFO (AFP t0 h fun a1=>
  AQ (List.length h) h a1):=
 Ai (by kernel_rfl)
def AFQ (k:Rv):Rv:=
 k
def AFR (t0:V) (k:V→Rv):Rv:=
 (AO .lss t0 (V.int .u64 128)).bind fun t4=>k t4
def AFS (t0:V) (k:V→Rv):Rv:=
 (conv P [] 93 5 t0).bind fun t6=>(Bv P 68 1 [(0,t6)]).bind fun t7=>(conv P [] 68 9 t7).bind fun t8=>k t8
def AFT (t0:V) (k:V→Rv):Rv:=
 (AO .rem t0 (V.int .u64 128)).bind fun t10=>(AO .add t10 (V.int .u64 128)).bind fun t11=>(conv P [] 93 5 t11).bind fun t12=>(Bv P 68 1 [(0,t12)]).bind fun t13=>(conv P [] 68 9 t13).bind fun t14=>(AO .quo t0 (V.int .u64 128)).bind fun t16=>(Cl 51 (AA [] [t16]) []).bind fun r=>(AO .add t14 r.1).bind fun t18=>k t18
theorem AMu (t0:V):Cl 51 [t0] []=
 AFQ (AFR t0 fun a1=>
  V.ite a1
  (AFS t0 fun a2=>
  AQ 0 [] a2)
  (AFT t0 fun a3=>
  AQ 0 [] a3)):=
 Ai (by kernel_rfl)
def AFU (k:Rv):Rv:=
 k
def AFV (t0:V) (h:List V) (k:V→List V→Rv):Rv:=
 (WU P 130 [(0,t0)]).bind fun t4=>if(BJ P 130 t4&&V.under (List.length h) t4)=true then k (V.ref (List.length h) [] 130) (h++[t4])else none
theorem AMv (t0:V) (h:List V):Cl 54 [t0] h=
 AFU (AFV t0 h fun a1 a2=>
  Wj a2 a1):=
 Ai (by kernel_rfl)
def AFW (k:Rv):Rv:=
 k
def AFX (h:List V) (k:V→List V→Rv):Rv:=
 (D8 P (h++[zero P 93]) 93 (V.ref (List.length h) [] 93) (V.int .u64 0)).bind fun a1=>k (V.ref (List.length h) [] 93) a1
def AFY (t0 t3:V) (h:List V) (k:List V→Rv):Rv:=
 (if(List.all [t3] V.capOk)=true then some (V.clo 78 [t3])else none).bind fun t5=>(Cl 77 (AU [t0,t5]) h).bind fun r=>k r.2
def AFZ (t3:V) (h:List V) (k:V→Rv):Rv:=
 (AY h 93 t3).bind fun t7=>k t7
theorem AMw (t0:V) (h:List V):Cl 55 [t0] h=
 AFW (AFX h fun a1 a2=>
  AFY t0 a1 a2 fun a3=>
  AFZ a1 a3 fun a4=>
  AQ (List.length h) a3 a4):=
 Ai (by kernel_rfl)
def VG (t5 t6 t9 t10 t44 t45:V) (n:Nat) (h:List V):Rv:=lp W 56 0 (cd 56 303) (bk 0 (sk 56 0 63 (lv 56 n))) ⟨[(5,t5),(6,t6),(9,t9),(10,t10),(44,t44),(45,t45)],h⟩
theorem TU (t5 t6 t9 t10 t44 t45:V) (n:Nat) (h:List V):VG t5 t6 t9 t10 t44 t45 n h=
 (AO .lss t45 t44).bind fun a19=>V.ite a19
  (if(ND t9 t5&&true)=true then(fA 33 29 2 t9).bind fun a20=>if Dx t9 a20=true then(BN h 29 a20).bind fun a21=>if Dx t5 t5=true then(AY a21.2 101 t5).bind fun a22=>Bl P DZ W (some t9) (V.clo 84 []) [a22] a21.2 fun a23 a24=>(Hy 55 false (ck [(BI 54) a23] [a23])).bind fun a25=>(Gi 55 (BI 54) false a24 a21.1 a25).bind fun a26=>(fA 33 29 2 t9).bind fun a27=>(CJ (IE 55) 29 a24 a27 a26).bind fun a28=>CG P DZ W t10 [] a28 fun a29 a30=>if V.noOwn a29=true then(H8 .eql (V.weak a29) (V.lst 9 .nil [])).bind fun a31=>V.ite a31
  (((ck [] [(V.int .i64 0),(V.lst 4 .nil []),(V.lst 55 .nil []),(V.lst 58 .nil []),(V.lst 108 .nil [])]).map (.agg 32)).bind fun a32=>(CJ (BI 32) 33 a30 t6 a32).bind fun a33=>(BL a33 33 t6).bind fun a34=>if(List.all [(V.bool false),a34] V.okE)=true then AQ n a33 (V.tup [a34,(V.bool false)])else none)
  ((fA 33 30 3 t9).bind fun a35=>(BN a30 30 a35).bind fun a36=>(Hy 58 true (ck [(IE 9) a29] [(V.weak a29)])).bind fun a37=>(Gi 58 (IE 9) true a36.2 a36.1 a37).bind fun a38=>(fA 33 30 3 t9).bind fun a39=>(CJ (IE 58) 30 a36.2 a39 a38).bind fun a40=>(AO .add t45 (V.int .i64 1)).bind fun a41=>VG t5 t6 t9 t10 t44 a41 n a40)else none else none else none else none)
  ((AY h 101 t5).bind fun a42=>(Cl 83 (AU [a42,(V.int .i64 65536)]) h).bind fun a43=>(Cl 85 (AA a43.2 [a43.1]) []).bind fun a44=>(Fz a44.1 0).bind fun a45=>(ext a44.1 1).bind fun a46=>(fA 33 31 4 t9).bind fun a47=>(CJ (IE 108) 31 a43.2 a47 a45).bind fun a48=>jn (fun a49 a50=>
 (BL a50 33 t6).bind fun a51=>if(List.all [a49,a51] V.okE)=true then AQ n a50 (V.tup [a51,a49])else none) (fun(a52:V→List V→Rv)=>if Dx t9 t9=true then(BL a48 33 t9).bind fun a53=>(AO .eql a46 (V.int .i64 0)).bind fun a54=>V.ite a54 ((AY a48 101 t5).bind fun a55=>Bl P DZ W (some t9) (V.clo 86 []) [a55] a48 fun a56 a57=>(AO .eql a56 (V.int .i64 0)).bind fun a58=>(CJ (BI 32) 33 a57 t6 a53).bind fun a59=>a52 a58 a59) ((CJ (BI 32) 33 a48 t6 a53).bind fun a60=>a52 (V.bool false) a60)else none)):=
 Bz (by kernel_rfl)
theorem AFa (t0 t1 t2:V) (h:List V):Cl 56 [t0,t1,t2] h=
 if((BI 25) t0&&V.under (List.length h) t0)=true then if((BI 32) (V.weak t1)&&V.under (List.length (h++[t0])) (V.weak t1))=true then if(tyP t2&&V.under (List.length ((h++[t0])++[(V.weak t1)])) t2)=true then(AY ((((h++[t0])++[(V.weak t1)])++[t2])++[(V.agg 32 [(V.int .i64 0),(V.lst 4 .nil []),(V.lst 55 .nil []),(V.lst 58 .nil []),(V.lst 108 .nil [])])]) 101 (V.ref (List.length ((h++[t0])++[(V.weak t1)])) [] 101)).bind fun a1=>(Cl 55 (AU [a1]) ((((h++[t0])++[(V.weak t1)])++[t2])++[(V.agg 32 [(V.int .i64 0),(V.lst 4 .nil []),(V.lst 55 .nil []),(V.lst 58 .nil []),(V.lst 108 .nil [])])])).bind fun a2=>jn (fun a3=>
 V.ite a3
  (((ck [] [(V.int .i64 0),(V.lst 4 .nil []),(V.lst 55 .nil []),(V.lst 58 .nil []),(V.lst 108 .nil [])]).map (.agg 32)).bind fun a4=>(CJ (BI 32) 33 a2.2 (V.ref (List.length (((h++[t0])++[(V.weak t1)])++[t2])) [] 33) a4).bind fun a5=>(BL a5 33 (V.ref (List.length (((h++[t0])++[(V.weak t1)])++[t2])) [] 33)).bind fun a6=>if(List.all [(V.bool false),a6] V.okE)=true then AQ (List.length h) a5 (V.tup [a6,(V.bool false)])else none)
  ((fA 33 3 0 (V.ref (List.length (h++[t0])) [] 33)).bind fun a7=>(AY a2.2 3 a7).bind fun a8=>(AO .add a8 (V.int .i64 1)).bind fun a9=>(fA 33 28 1 (V.ref (List.length (h++[t0])) [] 33)).bind fun a10=>(BL a2.2 28 a10).bind fun a11=>if DY true [a11]=true then(Cl 80 (AA a2.2 [a11]) []).bind fun a12=>((ck [(KW .i64) a9,(IE 4) a12.1] [a9,(V.weak a12.1),(V.lst 55 .nil []),(V.lst 58 .nil []),(V.lst 108 .nil [])]).map (.agg 32)).bind fun a13=>(CJ (BI 32) 33 (a2.2++[(V.agg 32 [(V.int .i64 0),(V.lst 4 .nil []),(V.lst 55 .nil []),(V.lst 58 .nil []),(V.lst 108 .nil [])])]) (V.ref (List.length a2.2) [] 33) a13).bind fun a14=>(if(List.all [(V.ref (List.length ((h++[t0])++[(V.weak t1)])) [] 101)] V.capOk)=true then some (V.clo 81 [(V.ref (List.length ((h++[t0])++[(V.weak t1)])) [] 101)])else none).bind fun a15=>(fA 33 29 2 (V.ref (List.length (h++[t0])) [] 33)).bind fun a16=>(BL a14 29 a16).bind fun a17=>(EU a17).bind fun a18=>VG (V.ref (List.length ((h++[t0])++[(V.weak t1)])) [] 101) (V.ref (List.length (((h++[t0])++[(V.weak t1)])++[t2])) [] 33) (V.ref (List.length a2.2) [] 33) a15 a18 (V.int .i64 0) (List.length h) a14 else none)) (fun(a61:V→Rv)=>(fA 33 3 0 (V.ref (List.length (h++[t0])) [] 33)).bind fun a62=>(AY a2.2 3 a62).bind fun a63=>(AO .lss a63 (V.int .i64 0)).bind fun a64=>V.ite a64 (a61 (V.bool true)) ((fA 33 3 0 (V.ref (List.length (h++[t0])) [] 33)).bind fun a65=>(AY a2.2 3 a65).bind fun a66=>(Hz .u64 a66).bind fun a67=>(AO .neq a2.1 a67).bind fun a68=>V.ite a68 (a61 (V.bool true)) ((fA 33 3 0 (V.ref (List.length (h++[t0])) [] 33)).bind fun a69=>(AY a2.2 3 a69).bind fun a70=>(fA 26 3 2 (V.ref (List.length h) [] 26)).bind fun a71=>(AY a2.2 3 a71).bind fun a72=>(AO .geq a70 a72).bind fun a73=>a61 a73)))else none else none else none:=
 Ai (by kernel_rfl)
theorem AMx (t0:V):Cl 58 [t0] []=
 jn (fun a1=>
 AQ 0 [] a1) (fun(a2:V→Rv)=>(AO .gtr t0 (V.int .i64 1125899906842624)).bind fun a3=>V.ite a3 (a2 (V.bool true)) ((AO .lss t0 (V.int .i64 (-1125899906842624))).bind fun a4=>a2 a4)):=
 Ai (by kernel_rfl)
def O3 (t4 t5:V) (h:List V):Rv:=lp W 61 0 (cd 61 303) (bk 0 (sk 61 0 63 (lv 61 0))) ⟨[(4,t4),(5,t5)],h⟩
theorem L9 (t4 t5:V) (h:List V):O3 t4 t5 h=
 (EU (V.weak t4)).bind fun a8=>(AO .lss t5 a8).bind fun a9=>V.ite a9
  ((AO .sub t5 (V.int .i64 1)).bind fun a10=>(ET 112 (V.weak t4) a10).bind fun a11=>(AY h 112 a11).bind fun a12=>(ET 112 (V.weak t4) t5).bind fun a13=>(AY h 112 a13).bind fun a14=>(Cl 91 (AA h [a12,a14]) []).bind fun a15=>(AO .eql a15.1 (V.int .i64 0)).bind fun a16=>V.ite a16
  (AQ 0 h (V.int .i64 51))
  ((AO .add t5 (V.int .i64 1)).bind fun a17=>O3 t4 a17 h))
  (AQ 0 h (V.int .i64 0)):=
 Bz (by kernel_rfl)
theorem O4 (t0:V):Cl 61 [t0] []=
 if((BI 23) (V.weak t0)&&V.under 0 (V.weak t0))=true then(if(List.all [(V.ref 0 [] 24)] V.capOk)=true then some (V.clo 87 [(V.ref 0 [] 24)])else none).bind fun a1=>jn (fun a2 a3=>
 V.ite a2
  (AQ 0 a3 (V.int .i64 50))
  ((fA 24 22 1 (V.ref 0 [] 24)).bind fun a4=>(BL a3 22 a4).bind fun a5=>(Cl 90 (AU [a5]) a3).bind fun a6=>(Cl 89 (AU [a6.1,(V.clo 91 [])]) a6.2).bind fun a7=>O3 a7.1 (V.int .i64 1) a7.2)) (fun(a18:V→List V→Rv)=>(fA 24 3 0 (V.ref 0 [] 24)).bind fun a19=>(AY [(V.weak t0)] 3 a19).bind fun a20=>(AO .lss a20 (V.int .i64 1)).bind fun a21=>V.ite a21 (a18 (V.bool true) [(V.weak t0)]) ((fA 24 3 0 (V.ref 0 [] 24)).bind fun a22=>(AY [(V.weak t0)] 3 a22).bind fun a23=>(AO .gtr a23 (V.int .i64 64)).bind fun a24=>V.ite a24 (a18 (V.bool true) [(V.weak t0)]) ((fA 24 22 1 (V.ref 0 [] 24)).bind fun a25=>(BL [(V.weak t0)] 22 a25).bind fun a26=>(EU a26).bind fun a27=>(AO .gtr a27 (V.int .i64 512)).bind fun a28=>V.ite a28 (a18 (V.bool true) [(V.weak t0)]) ((fA 24 22 1 (V.ref 0 [] 24)).bind fun a29=>(BL [(V.weak t0)] 22 a29).bind fun a30=>(Cl 88 (AU [a30,a1]) [(V.weak t0)]).bind fun a31=>a18 a31.1 a31.2))))else none:=
 Ai (by kernel_rfl)
theorem AMy (t0:V):Cl 62 [t0] []=
 (Hy 9 false (ck [tyS (V.str [109,97,120]),tyS (V.str [108,97,98,101,108]),tyS (V.str [115,115,115,112]),tyS (V.str [98,102,115]),tyS (V.str [100,101,103,114,101,101]),tyS (V.str [114,97,110,107]),tyS (V.str [119,97,108,107,115])] [(V.str [109,97,120]),(V.str [108,97,98,101,108]),(V.str [115,115,115,112]),(V.str [98,102,115]),(V.str [100,101,103,114,101,101]),(V.str [114,97,110,107]),(V.str [119,97,108,107,115])])).bind fun a1=>(Cl 92 (AA [] [a1,t0]) []).bind fun a2=>AQ 0 [] a2.1:=
 Ai (by kernel_rfl)
theorem AMz (t0 t1:V):Cl 63 [t0,t1] []=
 jn (fun a1=>
 AQ 0 [] a1) (fun(a2:V→Rv)=>(AO .geq t0 (V.int .i64 1)).bind fun a3=>V.ite a3 ((AO .leq t0 (V.int .i64 64)).bind fun a4=>V.ite a4 ((AO .geq t1 (V.int .i64 1)).bind fun a5=>V.ite a5 ((AO .leq t1 (V.int .i64 64)).bind fun a6=>a2 a6) (a2 (V.bool false))) (a2 (V.bool false))) (a2 (V.bool false))):=
 Ai (by kernel_rfl)
theorem AM0 (t0 t1 t2:V) (h:List V):Cl 64 [t0,t1,t2] h=
 (AY h 3 t1).bind fun a1=>(Cl 65 (AA h [t0,a1]) []).bind fun a2=>(AY h 3 t2).bind fun a3=>(AO .eql a2.1 a3).bind fun a4=>AQ (List.length h) h a4:=
 Ai (by kernel_rfl)
theorem AM1 (t0 t1:V):Cl 65 [t0,t1] []=
 jn (fun a1=>
 V.ite a1
  (AQ 0 [] (V.int .i64 (-1)))
  ((Hz .u32 t0).bind fun a2=>(Cl 93 (AA [] [a2]) []).bind fun a3=>(Hz .u32 t1).bind fun a4=>(AO .rem a3.1 a4).bind fun a5=>(Hz .i64 a5).bind fun a6=>AQ 0 [] a6)) (fun(a7:V→Rv)=>(AO .lss t0 (V.int .i64 0)).bind fun a8=>V.ite a8 (a7 (V.bool true)) ((AO .lss t1 (V.int .i64 1)).bind fun a9=>V.ite a9 (a7 (V.bool true)) ((AO .gtr t1 (V.int .i64 64)).bind fun a10=>a7 a10))):=
 Ai (by kernel_rfl)
theorem AM2 (t0:V):Cl 66 [t0] []=
 (EU (V.weak t0)).bind fun a1=>(Cl 95 (AA [(V.agg 54 (List.replicate 32 (V.int .u8 0)))] [t0]) []).bind fun a2=>(Cl 94 (AA [(V.agg 54 (List.replicate 32 (V.int .u8 0)))] [a1,a2.1]) []).bind fun a3=>(CJ (BI 54) 55 [(V.agg 54 (List.replicate 32 (V.int .u8 0)))] (V.ref 0 [] 55) a3.1).bind fun a4=>(AY a4 55 (V.ref 0 [] 55)).bind fun a5=>AQ 0 a4 a5:=
 Ai (by kernel_rfl)
theorem AFb (t0:V):Cl 67 [t0] []=
 if((BI 80) t0&&V.under 0 t0)=true then(AY [t0] 81 (V.ref 0 [] 81)).bind fun a1=>(Cl 96 (AA [t0] [a1]) []).bind fun a2=>(AO .neq a2.1 (V.int .i64 0)).bind fun a3=>V.ite a3
  (AQ 0 [t0] (V.str []))
  ((Cl 45 (AU []) [t0]).bind fun a4=>(fA 81 3 0 (V.ref 0 [] 81)).bind fun a5=>(AY a4.2 3 a5).bind fun a6=>(Hz .u64 a6).bind fun a7=>(Cl 46 (AU [a4.1,a7]) a4.2).bind fun a8=>(fA 81 2 1 (V.ref 0 [] 81)).bind fun a9=>(AY a8.2 2 a9).bind fun a10=>(Cl 97 (AU [a4.1,a10]) a8.2).bind fun a11=>(fA 81 4 2 (V.ref 0 [] 81)).bind fun a12=>(AY a11.2 4 a12).bind fun a13=>(Cl 98 (AA a11.2 [a13]) []).bind fun a14=>(Cl 46 (AU [a4.1,a14.1]) a11.2).bind fun a15=>(fA 81 4 3 (V.ref 0 [] 81)).bind fun a16=>(AY a15.2 4 a16).bind fun a17=>(Cl 98 (AA a15.2 [a17]) []).bind fun a18=>(Cl 46 (AU [a4.1,a18.1]) a15.2).bind fun a19=>(fA 81 2 4 (V.ref 0 [] 81)).bind fun a20=>(AY a19.2 2 a20).bind fun a21=>(Cl 97 (AU [a4.1,a21]) a19.2).bind fun a22=>(Cl 50 (AU [a4.1]) a22.2).bind fun a23=>AQ 0 a23.2 a23.1)else none:=
 Ai (by kernel_rfl)
def O5 (t1 t3 t4:V) (h:List V):Rv:=lp W 68 0 (cd 68 151) (bk 0 (sk 68 0 31 (lv 68 0))) ⟨[(1,t1),(3,t3),(4,t4)],h⟩
def VH (t1 t3 t4 t5 t6:V) (m0:Nat) (h:List V):Rv:=lp W 68 2 (cd 68 40087) (bk 2 (bk 1 (sk 68 0 919 (lk 68 0 m0 151 (bk 0 (sk 68 0 31 (lv 68 0))))))) ⟨[(1,t1),(3,t3),(4,t4),(5,t5),(6,t6)],h⟩
theorem TV (t1 t3 t4 t5 t6:V) (m0:Nat) (h:List V):VH t1 t3 t4 t5 t6 m0 h=
 (AO .lss t6 t4).bind fun a12=>V.ite a12
  (jn (fun a13=>
 (AO .add t6 (V.int .i64 1)).bind fun a14=>VH t1 a13 t4 t5 a14 m0 h) (fun(a15:V→Rv)=>V.ite t3 (a15 (V.bool true)) ((fA 24 22 1 t1).bind fun a16=>(BL h 22 a16).bind fun a17=>(ET 112 a17 t6).bind fun a18=>(fA 112 3 0 a18).bind fun a19=>(AY h 3 a19).bind fun a20=>(fA 112 3 0 t5).bind fun a21=>(AY h 3 a21).bind fun a22=>(AO .eql a20 a22).bind fun a23=>V.ite a23 ((fA 24 22 1 t1).bind fun a24=>(BL h 22 a24).bind fun a25=>(ET 112 a25 t6).bind fun a26=>(fA 112 3 1 a26).bind fun a27=>(AY h 3 a27).bind fun a28=>(fA 112 3 1 t5).bind fun a29=>(AY h 3 a29).bind fun a30=>(AO .eql a28 a30).bind fun a31=>a15 a31) (a15 (V.bool false)))))
  ((AO .add t4 (V.int .i64 1)).bind fun a32=>if Ac m0 [t1,t3,a32]=true then O5 t1 t3 a32 (List.take m0 h)else none):=
 Bz (by kernel_rfl)
theorem TW (t1 t3 t4:V) (h:List V):O5 t1 t3 t4 h=
 (fA 24 22 1 t1).bind fun a2=>(BL h 22 a2).bind fun a3=>(EU a3).bind fun a4=>(AO .lss t4 a4).bind fun a5=>V.ite a5
  ((fA 24 22 1 t1).bind fun a6=>(BL h 22 a6).bind fun a7=>(ET 112 a7 t4).bind fun a8=>(AY h 112 a8).bind fun a9=>(CJ (BI 111) 112 (h++[(V.agg 111 [(V.int .i64 0),(V.int .i64 0),(V.int .i64 0)])]) (V.ref (List.length h) [] 112) a9).bind fun a10=>jn (fun a11=>
 V.ite a11
  (AQ 0 a10 (V.int .i64 50))
  (VH t1 t3 t4 (V.ref (List.length h) [] 112) (V.int .i64 0) (List.length h) a10)) (fun(a33:V→Rv)=>(fA 112 3 0 (V.ref (List.length h) [] 112)).bind fun a34=>(AY a10 3 a34).bind fun a35=>(AO .lss a35 (V.int .i64 0)).bind fun a36=>V.ite a36 (a33 (V.bool true)) ((fA 112 3 0 (V.ref (List.length h) [] 112)).bind fun a37=>(AY a10 3 a37).bind fun a38=>(fA 24 3 0 t1).bind fun a39=>(AY a10 3 a39).bind fun a40=>(AO .geq a38 a40).bind fun a41=>V.ite a41 (a33 (V.bool true)) ((fA 112 3 1 (V.ref (List.length h) [] 112)).bind fun a42=>(AY a10 3 a42).bind fun a43=>(AO .lss a43 (V.int .i64 0)).bind fun a44=>V.ite a44 (a33 (V.bool true)) ((fA 112 3 1 (V.ref (List.length h) [] 112)).bind fun a45=>(AY a10 3 a45).bind fun a46=>(fA 24 3 0 t1).bind fun a47=>(AY a10 3 a47).bind fun a48=>(AO .geq a46 a48).bind fun a49=>V.ite a49 (a33 (V.bool true)) ((fA 112 2 2 (V.ref (List.length h) [] 112)).bind fun a50=>(AY a10 2 a50).bind fun a51=>(AO .lss a51 (V.int .i64 0)).bind fun a52=>V.ite a52 (a33 (V.bool true)) ((fA 112 2 2 (V.ref (List.length h) [] 112)).bind fun a53=>(AY a10 2 a53).bind fun a54=>(AO .gtr a54 (V.int .i64 1048576)).bind fun a55=>a33 a55)))))))
  (V.ite t3
  (AQ 0 h (V.int .i64 51))
  (AQ 0 h (V.int .i64 0))):=
 Bz (by kernel_rfl)
theorem VI (t0:V):Cl 68 [t0] []=
 if((BI 23) (V.weak t0)&&V.under 0 (V.weak t0))=true then jn (fun a1=>
 V.ite a1
  (AQ 0 [(V.weak t0)] (V.int .i64 50))
  (O5 (V.ref 0 [] 24) (V.bool false) (V.int .i64 0) [(V.weak t0)])) (fun(a56:V→Rv)=>(fA 24 3 0 (V.ref 0 [] 24)).bind fun a57=>(AY [(V.weak t0)] 3 a57).bind fun a58=>(AO .lss a58 (V.int .i64 1)).bind fun a59=>V.ite a59 (a56 (V.bool true)) ((fA 24 3 0 (V.ref 0 [] 24)).bind fun a60=>(AY [(V.weak t0)] 3 a60).bind fun a61=>(AO .gtr a61 (V.int .i64 64)).bind fun a62=>V.ite a62 (a56 (V.bool true)) ((fA 24 22 1 (V.ref 0 [] 24)).bind fun a63=>(BL [(V.weak t0)] 22 a63).bind fun a64=>(EU a64).bind fun a65=>(AO .gtr a65 (V.int .i64 512)).bind fun a66=>a56 a66)))else none:=
 Ai (by kernel_rfl)
theorem AM3 (t0:V):Cl 69 [t0] []=
 jn (fun a1=>
 AQ 0 [] a1) (fun(a2:V→Rv)=>(AO .eql t0 (V.str [109,97,120])).bind fun a3=>V.ite a3 (a2 (V.bool true)) ((AO .eql t0 (V.str [108,97,98,101,108])).bind fun a4=>V.ite a4 (a2 (V.bool true)) ((AO .eql t0 (V.str [115,115,115,112])).bind fun a5=>V.ite a5 (a2 (V.bool true)) ((AO .eql t0 (V.str [98,102,115])).bind fun a6=>V.ite a6 (a2 (V.bool true)) ((AO .eql t0 (V.str [100,101,103,114,101,101])).bind fun a7=>V.ite a7 (a2 (V.bool true)) ((AO .eql t0 (V.str [114,97,110,107])).bind fun a8=>V.ite a8 (a2 (V.bool true)) ((AO .eql t0 (V.str [119,97,108,107,115])).bind fun a9=>a2 a9))))))):=
 Ai (by kernel_rfl)
theorem AM4 (t0 t1:V):Cl 70 [t0,t1] []=
 jn (fun a1=>
 V.ite a1
  (AQ 0 [] (V.int .i64 (-1)))
  ((Hz .u64 t0).bind fun a2=>(AO .rem a2 (V.int .u64 4294967296)).bind fun a3=>(Hz .u32 a3).bind fun a4=>(Cl 99 (AA [] [a4]) []).bind fun a5=>(Hz .u32 t1).bind fun a6=>(AO .rem a5.1 a6).bind fun a7=>(Hz .i64 a7).bind fun a8=>AQ 0 [] a8)) (fun(a9:V→Rv)=>(AO .lss t0 (V.int .i64 0)).bind fun a10=>V.ite a10 (a9 (V.bool true)) ((AO .lss t1 (V.int .i64 1)).bind fun a11=>V.ite a11 (a9 (V.bool true)) ((AO .gtr t1 (V.int .i64 64)).bind fun a12=>a9 a12))):=
 Ai (by kernel_rfl)
theorem AM5 (t0:V):Cl 71 [t0] []=
 (EU (V.weak t0)).bind fun a1=>(Cl 101 (AA [(V.agg 54 (List.replicate 32 (V.int .u8 0)))] [t0]) []).bind fun a2=>(Cl 100 (AA [(V.agg 54 (List.replicate 32 (V.int .u8 0)))] [a1,a2.1]) []).bind fun a3=>(CJ (BI 54) 55 [(V.agg 54 (List.replicate 32 (V.int .u8 0)))] (V.ref 0 [] 55) a3.1).bind fun a4=>(AY a4 55 (V.ref 0 [] 55)).bind fun a5=>AQ 0 a4 a5:=
 Ai (by kernel_rfl)
theorem AFc (t0:V):Cl 72 [t0] []=
 if((BI 80) t0&&V.under 0 t0)=true then(AY [t0] 81 (V.ref 0 [] 81)).bind fun a1=>(Cl 102 (AA [t0] [a1]) []).bind fun a2=>(un .not a2.1).bind fun a3=>V.ite a3
  (AQ 0 [t0] (V.str []))
  ((fA 81 3 0 (V.ref 0 [] 81)).bind fun a4=>(AY [t0] 3 a4).bind fun a5=>(Hz .u64 a5).bind fun a6=>(Cl 51 (AA [t0] [a6]) []).bind fun a7=>(fA 81 2 1 (V.ref 0 [] 81)).bind fun a8=>(AY [t0] 2 a8).bind fun a9=>(Cl 103 (AA [t0] [a9]) []).bind fun a10=>(AO .add a7.1 a10.1).bind fun a11=>(fA 81 4 2 (V.ref 0 [] 81)).bind fun a12=>(AY [t0] 4 a12).bind fun a13=>(Cl 104 (AA [t0] [a13]) []).bind fun a14=>(AO .add a11 a14.1).bind fun a15=>(fA 81 4 3 (V.ref 0 [] 81)).bind fun a16=>(AY [t0] 4 a16).bind fun a17=>(Cl 104 (AA [t0] [a17]) []).bind fun a18=>(AO .add a15 a18.1).bind fun a19=>(fA 81 2 4 (V.ref 0 [] 81)).bind fun a20=>(AY [t0] 2 a20).bind fun a21=>(Cl 103 (AA [t0] [a21]) []).bind fun a22=>(AO .add a19 a22.1).bind fun a23=>AQ 0 [t0] a23)else none:=
 Ai (by kernel_rfl)
def AFd (k:Rv):Rv:=
 k
def AFe (k:V→Rv):Rv:=
 k (V.clo 105 [])
def AFf (t0:V) (k:V→Rv):Rv:=
 (lenV P 31 (V.weak t0)).bind fun t9=>(AO .gtr t9 (V.int .i64 512)).bind fun t10=>k t10
def AFg (k:V→Rv):Rv:=
 k (V.int .i64 110)
def AFh (t0:V) (h:List V) (k:V→Rv):Rv:=
 (Cl 106 (AA h [t0]) []).bind fun r=>k r.1
def AFi (t4:V) (k:V→V→V→Rv):Rv:=
 (lenV P 31 (V.weak t4)).bind fun t14=>k (V.weak t4) t14 (V.int .i64 0)
def VJ (t3 t4 t13 t14 t15:V) (h:List V):Rv:=lp W 74 0 (cd 74 303) (bk 0 (sk 74 0 63 (lv 74 0))) ⟨[(3,t3),(4,t4),(13,t13),(14,t14),(15,t15)],h⟩
def ZR (t14 t15:V) (k:V→Rv):Rv:=
 (AO .lss t15 t14).bind fun t16=>k t16
def AFj (t13 t15:V) (h:List V) (k:V→V→List V→Rv):Rv:=
 (AX P 31 t13 t15).bind fun t18=>(AY h 108 t18).bind fun t19=>(D8 P (h++[zero P 108]) 108 (V.ref (List.length h) [] 108) t19).bind fun a1=>k t15 (V.ref (List.length h) [] 108) a1
def ZT (t4 t5 t6:V) (h:List V) (k:V→Rv):Rv:=
 (AO .gtr t5 (V.int .i64 0)).bind fun t21=>V.ite t21 ((AO .sub t5 (V.int .i64 1)).bind fun t25=>(AX P 31 (V.weak t4) t25).bind fun t26=>(Ap P 108 0 t26).bind fun t27=>(AY h 3 t27).bind fun t28=>(Ap P 108 0 t6).bind fun t29=>(AY h 3 t29).bind fun t30=>(AO .eql t28 t30).bind fun t31=>V.ite t31 ((AO .sub t5 (V.int .i64 1)).bind fun t36=>(AX P 31 (V.weak t4) t36).bind fun t37=>(Ap P 108 1 t37).bind fun t38=>(AY h 3 t38).bind fun t39=>(Ap P 108 1 t6).bind fun t40=>(AY h 3 t40).bind fun t41=>(AO .eql t39 t41).bind fun t42=>k t42) (k (V.bool false))) (k (V.bool false))
def ZU (t3 t6 t7:V) (h:List V) (k:V→List V→Rv):Rv:=
 (Ap P 108 0 t6).bind fun t45=>(AY h 3 t45).bind fun t46=>CG P DZ W t3 [t46] h fun t47 a1=>if V.noOwn t47=true then(un .not t47).bind fun t48=>V.ite t48 (k (V.bool true) a1) ((Ap P 108 1 t6).bind fun t51=>(AY a1 3 t51).bind fun t52=>CG P DZ W t3 [t52] a1 fun t53 a2=>if V.noOwn t53=true then(un .not t53).bind fun t54=>V.ite t54 (k (V.bool true) a2) ((Ap P 108 2 t6).bind fun t57=>(AY a2 2 t57).bind fun t58=>(AO .gtr t58 (V.int .i64 1125899906842624)).bind fun t59=>V.ite t59 (k (V.bool true) a2) ((Ap P 108 2 t6).bind fun t62=>(AY a2 2 t62).bind fun t63=>(AO .lss t63 (V.int .i64 (-1125899906842624))).bind fun t64=>V.ite t64 (k (V.bool true) a2) (k t7 a2)))else none)else none
def AAo (k:V→Rv):Rv:=
 k (V.int .i64 110)
def AAp (t15:V) (k:V→Rv):Rv:=
 (AO .add t15 (V.int .i64 1)).bind fun t69=>k t69
def AAq (k:V→Rv):Rv:=
 k (V.int .i64 0)
theorem TY (t3 t4 t13 t14 t15:V) (h:List V):VJ t3 t4 t13 t14 t15 h=
 ZR t14 t15 fun a8=>
  V.ite a8
  (AFj t13 t15 h fun a9 a10 a11=>
  ZT t4 a9 a10 a11 fun a12=>
  ZU t3 a10 a12 a11 fun a13 a14=>
  V.ite a13
  (AAo fun a15=>
  AQ 0 a14 a15)
  (AAp t15 fun a16=>
  if Ac (List.length h) [t3,t4,t13,t14,a16]=true then VJ t3 t4 t13 t14 a16 (List.take (List.length h) a14)else none))
  (AAq fun a17=>
  AQ 0 h a17):=
 Bz (by kernel_rfl)
theorem AM6 (t0:V):Cl 74 [t0] []=
 AFd (AFe fun a1=>
  AFf t0 fun a2=>
  V.ite a2
  (AFg fun a3=>
  AQ 0 [] a3)
  (AFh t0 [] fun a4=>
  AFi a4 fun a5 a6 a7=>
  VJ a1 a4 a5 a6 a7 [])):=
 Ai (by kernel_rfl)
def AFk (k:Rv):Rv:=
 k
def AFl (k:V→Rv):Rv:=
 k (V.weak (V.lst 9 .nil []))
def AFm (t0:V) (h:List V) (k:V→V→V→Rv):Rv:=
 (Cl 106 (AA h [t0]) []).bind fun r=>(lenV P 31 r.1).bind fun t8=>k r.1 t8 (V.int .i64 0)
def VK (t3 t7 t8 t9:V) (h:List V):Rv:=lp W 75 0 (cd 75 75) (bk 0 (sk 75 0 15 (lv 75 0))) ⟨[(3,t3),(7,t7),(8,t8),(9,t9)],h⟩
def ZV (t8 t9:V) (k:V→Rv):Rv:=
 (AO .lss t9 t8).bind fun t10=>k t10
def AFn (t7 t9:V) (h:List V) (k:V→List V→Rv):Rv:=
 (AX P 31 t7 t9).bind fun t11=>(AY h 108 t11).bind fun t12=>(D8 P (h++[zero P 108]) 108 (V.ref (List.length h) [] 108) t12).bind fun a1=>k (V.ref (List.length h) [] 108) a1
def AFo (t3 t5:V) (h:List V) (k:V→Rv):Rv:=
 (AY h 108 t5).bind fun t14=>(Cl 107 (AA h [t14]) []).bind fun r=>(Bv P 58 1 [(0,r.1)]).bind fun t16=>(DW P 58 h t3 t16).bind fun t17=>k t17
def AFp (t9:V) (k:V→Rv):Rv:=
 (AO .add t9 (V.int .i64 1)).bind fun t18=>k t18
def AFq (t3:V) (k:V→Rv):Rv:=
 k t3
theorem Tc (t3 t7 t8 t9:V) (h:List V):VK t3 t7 t8 t9 h=
 ZV t8 t9 fun a5=>
  V.ite a5
  (AFn t7 t9 h fun a6 a7=>
  AFo t3 a6 a7 fun a8=>
  AFp t9 fun a9=>
  if Ac (List.length h) [a8,t7,t8,a9]=true then VK a8 t7 t8 a9 (List.take (List.length h) a7)else none)
  (AFq t3 fun a10=>
  AQ 0 h a10):=
 Bz (by kernel_rfl)
theorem AM7 (t0:V):Cl 75 [t0] []=
 AFk (AFl fun a1=>
  AFm t0 [] fun a2 a3 a4=>
  VK a1 a2 a3 a4 []):=
 Ai (by kernel_rfl)
def ZW (k:Rv):Rv:=
 k
def ZX (t0:V) (h:List V) (k:V→Rv):Rv:=
 (Bj t0).bind fun t8=>(Ap P 130 1 t8).bind fun t9=>(AY h 34 t9).bind fun t10=>(AO .neq t10 (V.int .i64 0)).bind fun t11=>k t11
def AFr (k:V→Rv):Rv:=
 k (V.bool false)
def AFs (t0 t1:V) (h:List V) (k:V→V→List V→Rv):Rv:=
 (Bj t0).bind fun t15=>(Ap P 130 0 t15).bind fun t16=>(AY h 9 t16).bind fun t17=>CG P DZ W t1 [t17] h fun t18 a1=>if V.noOwn t18=true then(ext t18 0).bind fun t19=>(ext t18 1).bind fun t20=>k t19 t20 a1 else none
def AFt (t0 t6:V) (h:List V) (k:List V→Rv):Rv:=
 (Bj t0).bind fun t23=>(Ap P 130 1 t23).bind fun t24=>(D8 P h 34 t24 t6).bind fun a1=>k a1
def AFu (t6:V) (k:V→Rv):Rv:=
 (AO .neq t6 (V.int .i64 0)).bind fun t26=>k t26
def AFv (k:V→Rv):Rv:=
 k (V.bool false)
def AFw (t0 t5:V) (h:List V) (k:List V→Rv):Rv:=
 (Bj t0).bind fun t29=>(Ap P 130 0 t29).bind fun t30=>(AY h 9 t30).bind fun t31=>(JY P 9 t31 (some t5) none none).bind fun t33=>(Bj t0).bind fun t34=>(Ap P 130 0 t34).bind fun t35=>(D8 P h 9 t35 t33).bind fun a1=>k a1
def AFx (k:V→Rv):Rv:=
 k (V.bool true)
theorem AFy (t0 t1:V) (h:List V):Cl 77 [t0,t1] h=
 ZW (ZX t0 h fun a1=>
  V.ite a1
  (AFr fun a2=>
  AQ (List.length h) h a2)
  (AFs t0 t1 h fun a3 a4 a5=>
  AFt t0 a4 a5 fun a6=>
  AFu a4 fun a7=>
  V.ite a7
  (AFv fun a8=>
  AQ (List.length h) a6 a8)
  (AFw t0 a3 a6 fun a9=>
  AFx fun a10=>
  AQ (List.length h) a9 a10))):=
 Ai (by kernel_rfl)
def AFz (k:Rv):Rv:=
 k
def AF0 (t0:V) (h:List V) (k:V→V→V→Rv):Rv:=
 (Cl 79 (AA h [t0]) []).bind fun r=>(ext r.1 0).bind fun t11=>(ext r.1 1).bind fun t12=>(ext r.1 2).bind fun t13=>k t11 t12 t13
def AF1 (t1 t5:V) (h:List V) (k:List V→Rv):Rv:=
 (D8 P h 93 t1 t5).bind fun a1=>k a1
def AF2 (t6 t7:V) (k:V→V→Rv):Rv:=
 k t6 t7
theorem AM8 (t0 t1:V) (h:List V):Cl 78 [t0,t1] h=
 AFz (AF0 t0 h fun a1 a2 a3=>
  AF1 t1 a1 h fun a4=>
  AF2 a2 a3 fun a5 a6=>
  if(List.all [a6,a5] V.okE)=true then AQ (List.length h) a4 (V.tup [a5,a6])else none):=
 Ai (by kernel_rfl)
def AF3 (k:Rv):Rv:=
 k
def AF4 (k:V→Rv):Rv:=
 k (V.int .u64 0)
def AF5 (t0:V) (k:V→V→Rv):Rv:=
 (lenV P 9 t0).bind fun t9=>k t9 (V.int .i64 0)
def VL (t0 t5 t9 t10:V):Rv:=lp W 79 0 (cd 79 75) (bk 0 (sk 79 0 15 (lv 79 0))) ⟨[(0,t0),(5,t5),(9,t9),(10,t10)],[]⟩
def ZY (t9 t10:V) (k:V→Rv):Rv:=
 (AO .lss t10 t9).bind fun t11=>k t11
def AF6 (t10:V) (k:V→Rv):Rv:=
 k t10
def AF7 (t0 t6:V) (k:V→Rv):Rv:=
 (GX P 9 t0 t6).bind fun t15=>k t15
def Za (t6 t7:V) (k:V→Rv):Rv:=
 (AO .eql t6 (V.int .i64 9)).bind fun t17=>V.ite t17 ((AO .gtr t7 (V.int .u8 1)).bind fun t20=>V.ite t20 (k (V.bool true)) ((AO .gtr t6 (V.int .i64 0)).bind fun t24=>V.ite t24 ((AO .eql t7 (V.int .u8 0)).bind fun t27=>k t27) (k (V.bool false)))) ((AO .gtr t6 (V.int .i64 0)).bind fun a1=>V.ite a1 ((AO .eql t7 (V.int .u8 0)).bind fun a1=>k a1) (k (V.bool false)))
def AF8 (k:V→V→V→Rv):Rv:=
 k (V.int .u64 0) (V.int .i64 0) (V.int .i64 21)
def Zb (t5 t6 t7:V) (k:V→Rv):Rv:=
 (AO .and t7 (V.int .u8 127)).bind fun t32=>(conv P [] 5 93 t32).bind fun t33=>(AO .mul (V.int .i64 7) t6).bind fun t35=>(conv P [] 3 126 t35).bind fun t36=>(AO .shl t33 t36).bind fun t37=>(AO .or t5 t37).bind fun t38=>k t38
def AF9 (t7:V) (k:V→Rv):Rv:=
 (AO .lss t7 (V.int .u8 128)).bind fun t40=>k t40
def AAr (t5 t6:V) (k:V→V→V→Rv):Rv:=
 (AO .add t6 (V.int .i64 1)).bind fun t43=>k t5 t43 (V.int .i64 0)
def AAs (t10:V) (k:V→Rv):Rv:=
 (AO .add t10 (V.int .i64 1)).bind fun t44=>k t44
def AAt (k:V→V→V→Rv):Rv:=
 k (V.int .u64 0) (V.int .i64 0) (V.int .i64 20)
theorem Td (t0 t5 t9 t10:V):VL t0 t5 t9 t10=
 ZY t9 t10 fun a4=>
  V.ite a4
  (AF6 t10 fun a5=>
  AF7 t0 a5 fun a6=>
  Za a5 a6 fun a7=>
  V.ite a7
  (AF8 fun a8 a9 a10=>
  if(List.all [a10,a9,a8] V.okE)=true then AQ 0 [] (V.tup [a8,a9,a10])else none)
  (Zb t5 a5 a6 fun a11=>
  AF9 a6 fun a12=>
  V.ite a12
  (AAr a11 a5 fun a13 a14 a15=>
  if(List.all [a15,a14,a13] V.okE)=true then AQ 0 [] (V.tup [a13,a14,a15])else none)
  (AAs t10 fun a16=>
  VL t0 a11 t9 a16)))
  (AAt fun a17 a18 a19=>
  if(List.all [a19,a18,a17] V.okE)=true then AQ 0 [] (V.tup [a17,a18,a19])else none):=
 Bz (by kernel_rfl)
theorem AM9 (t0:V):Cl 79 [t0] []=
 AF3 (AF4 fun a1=>
  AF5 t0 fun a2 a3=>
  VL t0 a1 a2 a3):=
 Ai (by kernel_rfl)
theorem ANA (t0:V):Cl 80 [t0] []=
 (H8 .eql (V.weak t0) (V.lst 4 .nil [])).bind fun a1=>V.ite a1
  (Nr 0 [] (V.weak (V.lst 4 .nil [])))
  ((Hy 4 false (ck [] [])).bind fun a2=>(Gi 4 tyB false [] a2 t0).bind fun a3=>Nr 0 [] a3):=
 Ai (by kernel_rfl)
def VN (t0 t2 t3 t4:V) (n:Nat) (h:List V):Rv:=lp W 81 0 (cd 81 151) (bk 0 (sk 81 0 31 (lv 81 n))) ⟨[(0,t0),(2,t2),(3,t3),(4,t4)],h⟩
theorem I8 (t0 t2 t3 t4:V) (n:Nat) (h:List V):VN t0 t2 t3 t4 n h=
 jn (fun a4 a5=>
 V.ite a4
  ((AY a5 101 t0).bind fun a6=>(Cl 83 (AU [a6,(V.int .i64 40)]) a5).bind fun a7=>(Hy 9 false (ck [tyS a7.1] [a7.1])).bind fun a8=>(Gi 9 tyS false a7.2 t3 a8).bind fun a9=>(AO .add t4 (V.int .u64 1)).bind fun a10=>VN t0 t2 a9 a10 n a7.2)
  ((AO .gtr t2 (V.int .u64 64)).bind fun a11=>V.ite a11
  (ADZ n a5 (V.weak (V.lst 9 .nil [])))
  (ADZ n a5 t3))) (fun(a12:V→List V→Rv)=>(AO .lss t4 t2).bind fun a13=>V.ite a13 ((AO .leq t2 (V.int .u64 64)).bind fun a14=>V.ite a14 ((AY h 101 t0).bind fun a15=>(Cl 82 (AU [a15]) h).bind fun a16=>(AO .eql a16.1 (V.int .i64 0)).bind fun a17=>a12 a17 a16.2) (a12 (V.bool false) h)) (a12 (V.bool false) h)):=
 Bz (by kernel_rfl)
theorem AGA (t0:V) (h:List V):Cl 81 [t0] h=
 (AY h 101 t0).bind fun a1=>(Cl 55 (AU [a1]) h).bind fun a2=>(Hy 9 false (ck [] [])).bind fun a3=>VN t0 a2.1 a3 (V.int .u64 0) (List.length h) a2.2:=
 Ai (by kernel_rfl)
def AGB (k:Rv):Rv:=
 k
def AGC (t0:V) (h:List V) (k:V→Rv):Rv:=
 (Bj t0).bind fun t4=>(Ap P 130 1 t4).bind fun t5=>(AY h 34 t5).bind fun t6=>k t6
theorem ANB (t0:V) (h:List V):Cl 82 [t0] h=
 AGB (AGC t0 h fun a1=>
  AQ (List.length h) h a1):=
 Ai (by kernel_rfl)
def AGD (t1:V) (h:List V) (k:V→List V→Rv):Rv:=
 if(BJ P 3 t1&&V.under (List.length h) t1)=true then k (V.ref (List.length h) [] 3) (h++[t1])else none
def AGE (h:List V) (k:V→List V→Rv):Rv:=
 (D8 P (h++[zero P 9]) 9 (V.ref (List.length h) [] 9) (V.str [])).bind fun a1=>k (V.ref (List.length h) [] 9) a1
def AGF (t0 t3 t5:V) (h:List V) (k:List V→Rv):Rv:=
 (if(List.all [t3,t5] V.capOk)=true then some (V.clo 109 [t3,t5])else none).bind fun t7=>(Cl 77 (AU [t0,t7]) h).bind fun r=>k r.2
def AGG (t5:V) (h:List V) (k:V→Rv):Rv:=
 (AY h 9 t5).bind fun t9=>k t9
theorem ANC (t0 t1:V) (h:List V):Cl 83 [t0,t1] h=
 AGD t1 h fun a1 a2=>
  AGE a2 fun a3 a4=>
  AGF t0 a1 a3 a4 fun a5=>
  AGG a3 a5 fun a6=>
  AQ (List.length h) a5 a6:=
 Ai (by kernel_rfl)
theorem ANE (t0:V) (h:List V):Cl 84 [t0] h=
 (if(List.all [(V.ref (List.length (h++[(V.agg 54 (List.replicate 32 (V.int .u8 0)))])) [] 55)] V.capOk)=true then some (V.clo 110 [(V.ref (List.length (h++[(V.agg 54 (List.replicate 32 (V.int .u8 0)))])) [] 55)])else none).bind fun a1=>(Cl 77 (AU [t0,a1]) ((h++[(V.agg 54 (List.replicate 32 (V.int .u8 0)))])++[(V.agg 54 (List.replicate 32 (V.int .u8 0)))])).bind fun a2=>(AY a2.2 55 (V.ref (List.length (h++[(V.agg 54 (List.replicate 32 (V.int .u8 0)))])) [] 55)).bind fun a3=>(CJ (BI 54) 55 a2.2 (V.ref (List.length h) [] 55) a3).bind fun a4=>(AY a4 55 (V.ref (List.length h) [] 55)).bind fun a5=>AQ (List.length h) a4 a5:=
 Ai (by kernel_rfl)
def AGH (k:Rv):Rv:=
 k
def AGI (t0:V) (h:List V) (k:V→List V→Rv):Rv:=
 (Cl 54 (AU [t0]) h).bind fun r=>k r.1 r.2
def AGJ (t4:V) (h:List V) (k:V→List V→Rv):Rv:=
 (Cl 55 (AU [t4]) h).bind fun r=>k r.1 r.2
def AGK (t4:V) (h:List V) (k:V→List V→Rv):Rv:=
 (Cl 82 (AU [t4]) h).bind fun r=>(AO .neq r.1 (V.int .i64 0)).bind fun t20=>k t20 r.2
def AGL (t4:V) (h:List V) (k:V→V→List V→Rv):Rv:=
 (Cl 82 (AU [t4]) h).bind fun r=>k (V.weak (V.lst 108 .nil [])) r.1 r.2
def AGM (t5:V) (k:V→Rv):Rv:=
 (AO .gtr t5 (V.int .u64 512)).bind fun t25=>k t25
def AGN (k:V→V→Rv):Rv:=
 k (V.weak (V.lst 108 .nil [])) (V.int .i64 110)
def AGO (k:V→Rv):Rv:=
 k (V.weak (V.lst 108 .nil []))
def AGP (t5:V) (k:V→V→Rv):Rv:=
 k t5 (V.int .u64 0)
def MB (t0 t4 t6 t26 t27:V) (h:List V):Rv:=lp W 85 1 (cd 85 607) (bk 1 (sk 85 0 127 (lv 85 0))) ⟨[(0,t0),(4,t4),(6,t6),(26,t26),(27,t27)],h⟩
def Zc (t26 t27:V) (k:V→Rv):Rv:=
 (AO .lss t27 t26).bind fun t28=>k t28
def AAu (t4:V) (h:List V) (k:V→List V→Rv):Rv:=
 (Cl 83 (AU [t4,(V.int .i64 40)]) h).bind fun r=>k r.1 r.2
def AAv (t4:V) (h:List V) (k:V→List V→Rv):Rv:=
 (Cl 82 (AU [t4]) h).bind fun r=>(AO .neq r.1 (V.int .i64 0)).bind fun t33=>k t33 r.2
def AAw (t4:V) (h:List V) (k:V→V→List V→Rv):Rv:=
 (Cl 82 (AU [t4]) h).bind fun r=>k (V.weak (V.lst 108 .nil [])) r.1 r.2
def AAx (t7:V) (h:List V) (k:V→V→List V→Rv):Rv:=
 (Cl 111 (AA h [t7]) []).bind fun r=>(ext r.1 0).bind fun t39=>(ext r.1 1).bind fun t40=>(D8 P (h++[zero P 108]) 108 (V.ref (List.length h) [] 108) t39).bind fun a1=>k (V.ref (List.length h) [] 108) t40 a1
def AAy (t9:V) (k:V→Rv):Rv:=
 (AO .neq t9 (V.int .i64 0)).bind fun t42=>k t42
def AAz (t9:V) (k:V→V→Rv):Rv:=
 k (V.weak (V.lst 108 .nil [])) t9
def AA0 (t6 t8:V) (h:List V) (k:V→Rv):Rv:=
 (AY h 108 t8).bind fun t45=>(Bv P 31 1 [(0,t45)]).bind fun t46=>(DW P 31 h t6 t46).bind fun t47=>k t47
def AA1 (t27:V) (k:V→Rv):Rv:=
 (AO .add t27 (V.int .u64 1)).bind fun t48=>k t48
def AA2 (t4:V) (h:List V) (k:V→List V→Rv):Rv:=
 (Cl 86 (AU [t4]) h).bind fun r=>k r.1 r.2
def AA3 (t10:V) (k:V→Rv):Rv:=
 (AO .neq t10 (V.int .i64 0)).bind fun t52=>k t52
def AA4 (t10:V) (k:V→V→Rv):Rv:=
 k (V.weak (V.lst 108 .nil [])) t10
def AA5 (t6:V) (h:List V) (k:V→V→Rv):Rv:=
 (Cl 49 (AA h [(V.weak t6)]) []).bind fun r=>(ext r.1 0).bind fun t57=>(ext r.1 1).bind fun t58=>k t57 t58
def VO (t0 t11 t12:V) (k:V→Rv):Rv:=
 (AO .neq t12 (V.int .i64 0)).bind fun t60=>V.ite t60 (k (V.bool true)) ((AO .neq t11 t0).bind fun t64=>k t64)
def VP (k:V→V→Rv):Rv:=
 k (V.weak (V.lst 108 .nil [])) (V.int .i64 110)
def AA6 (t6:V) (k:V→V→Rv):Rv:=
 k t6 (V.int .i64 0)
theorem Tf (t0 t4 t6 t26 t27:V) (h:List V):MB t0 t4 t6 t26 t27 h=
 Zc t26 t27 fun a16=>
  V.ite a16
  (AAu t4 h fun a17 a18=>
  AAv t4 a18 fun a19 a20=>
  V.ite a19
  (AAw t4 a20 fun a21 a22 a23=>
  if(List.all [a22,a21] V.okE)=true then AQ 0 a23 (V.tup [a21,a22])else none)
  (AAx a17 a20 fun a24 a25 a26=>
  AAy a25 fun a27=>
  V.ite a27
  (AAz a25 fun a28 a29=>
  if(List.all [a29,a28] V.okE)=true then AQ 0 a26 (V.tup [a28,a29])else none)
  (AA0 t6 a24 a26 fun a30=>
  AA1 t27 fun a31=>
  if Ac (List.length h) [t0,t4,a30,t26,a31]=true then MB t0 t4 a30 t26 a31 (List.take (List.length h) a26)else none)))
  (AA2 t4 h fun a32 a33=>
  AA3 a32 fun a34=>
  V.ite a34
  (AA4 a32 fun a35 a36=>
  if(List.all [a36,a35] V.okE)=true then AQ 0 a33 (V.tup [a35,a36])else none)
  (AA5 t6 a33 fun a37 a38=>
  VO t0 a37 a38 fun a39=>
  V.ite a39
  (VP fun a40 a41=>
  if(List.all [a41,a40] V.okE)=true then AQ 0 a33 (V.tup [a40,a41])else none)
  (AA6 t6 fun a42 a43=>
  if(List.all [a43,a42] V.okE)=true then AQ 0 a33 (V.tup [a42,a43])else none))):=
 Bz (by kernel_rfl)
theorem ANF (t0:V):Cl 85 [t0] []=
 AGH (AGI t0 [] fun a1 a2=>
  AGJ a1 a2 fun a3 a4=>
  AGK a1 a4 fun a5 a6=>
  V.ite a5
  (AGL a1 a6 fun a7 a8 a9=>
  if(List.all [a8,a7] V.okE)=true then AQ 0 a9 (V.tup [a7,a8])else none)
  (AGM a3 fun a10=>
  V.ite a10
  (AGN fun a11 a12=>
  if(List.all [a12,a11] V.okE)=true then AQ 0 a6 (V.tup [a11,a12])else none)
  (AGO fun a13=>
  AGP a3 fun a14 a15=>
  MB t0 a1 a13 a14 a15 a6))):=
 Ai (by kernel_rfl)
def AGQ (k:Rv):Rv:=
 k
def AGR (t0:V) (h:List V) (k:V→Rv):Rv:=
 (Bj t0).bind fun t4=>(Ap P 130 1 t4).bind fun t5=>(AY h 34 t5).bind fun t6=>(AO .eql t6 (V.int .i64 0)).bind fun t7=>V.ite t7 ((Bj t0).bind fun t10=>(Ap P 130 0 t10).bind fun t11=>(AY h 9 t11).bind fun t12=>(AO .neq t12 (V.str [])).bind fun t13=>k t13) (k (V.bool false))
def AGS (k:V→Rv):Rv:=
 k (V.int .i64 22)
def AGT (t0:V) (h:List V) (k:V→Rv):Rv:=
 (Bj t0).bind fun t16=>(Ap P 130 1 t16).bind fun t17=>(AY h 34 t17).bind fun t18=>k t18
theorem ANG (t0:V) (h:List V):Cl 86 [t0] h=
 AGQ (AGR t0 h fun a1=>
  V.ite a1
  (AGS fun a2=>
  AQ (List.length h) h a2)
  (AGT t0 h fun a3=>
  AQ (List.length h) h a3)):=
 Ai (by kernel_rfl)
theorem ANH (t0 t1:V) (h:List V):Cl 87 [t0,t1] h=
 if((BI 111) t0&&V.under (List.length h) t0)=true then jn (fun a1=>
 AQ (List.length h) (h++[t0]) a1) (fun(a2:V→Rv)=>(fA 112 3 0 (V.ref (List.length h) [] 112)).bind fun a3=>(AY (h++[t0]) 3 a3).bind fun a4=>(AO .lss a4 (V.int .i64 0)).bind fun a5=>V.ite a5 (a2 (V.bool true)) ((fA 112 3 0 (V.ref (List.length h) [] 112)).bind fun a6=>(AY (h++[t0]) 3 a6).bind fun a7=>(fA 24 3 0 t1).bind fun a8=>(AY (h++[t0]) 3 a8).bind fun a9=>(AO .geq a7 a9).bind fun a10=>V.ite a10 (a2 (V.bool true)) ((fA 112 3 1 (V.ref (List.length h) [] 112)).bind fun a11=>(AY (h++[t0]) 3 a11).bind fun a12=>(AO .lss a12 (V.int .i64 0)).bind fun a13=>V.ite a13 (a2 (V.bool true)) ((fA 112 3 1 (V.ref (List.length h) [] 112)).bind fun a14=>(AY (h++[t0]) 3 a14).bind fun a15=>(fA 24 3 0 t1).bind fun a16=>(AY (h++[t0]) 3 a16).bind fun a17=>(AO .geq a15 a17).bind fun a18=>V.ite a18 (a2 (V.bool true)) ((fA 112 2 2 (V.ref (List.length h) [] 112)).bind fun a19=>(AY (h++[t0]) 2 a19).bind fun a20=>(AO .lss a20 (V.int .i64 0)).bind fun a21=>V.ite a21 (a2 (V.bool true)) ((fA 112 2 2 (V.ref (List.length h) [] 112)).bind fun a22=>(AY (h++[t0]) 2 a22).bind fun a23=>(AO .gtr a23 (V.int .i64 1048576)).bind fun a24=>a2 a24))))))else none:=
 Ai (by kernel_rfl)
theorem ANI (t0 t1:V) (h:List V):Cl 88 [t0,t1] h=
 (Cl 112 (AU [t0,t1]) h).bind fun a1=>(AO .geq a1.1 (V.int .i64 0)).bind fun a2=>AQ (List.length h) a1.2 a2:=
 Ai (by kernel_rfl)
theorem ANJ (t0 t1:V) (h:List V):Cl 89 [t0,t1] h=
 (Cl 113 (AU [t0]) h).bind fun a1=>(aps 1000091 112 [(V.weak a1.1),t1] a1.2).bind fun a2=>AQ (List.length h) a2.2 a1.1:=
 Ai (by kernel_rfl)
theorem ANK (t0:V) (h:List V):Cl 90 [t0] h=
 if((IE 112) (V.weak t0)&&V.under (List.length h) (V.weak t0))=true then(if(List.all [(V.ref (List.length h) [] 22)] V.capOk)=true then some (V.clo 115 [(V.ref (List.length h) [] 22)])else none).bind fun a1=>Wj (h++[(V.weak t0)]) a1 else none:=
 Ai (by kernel_rfl)
theorem ANL (t0 t1:V):Cl 91 [t0,t1] []=
 if((BI 111) t0&&V.under 0 t0)=true then if((BI 111) t1&&V.under 1 t1)=true then(fA 112 3 0 (V.ref 0 [] 112)).bind fun a1=>(AY [t0,t1] 3 a1).bind fun a2=>(fA 112 3 0 (V.ref 1 [] 112)).bind fun a3=>(AY [t0,t1] 3 a3).bind fun a4=>(AO .neq a2 a4).bind fun a5=>V.ite a5
  ((fA 112 3 0 (V.ref 0 [] 112)).bind fun a6=>(AY [t0,t1] 3 a6).bind fun a7=>(fA 112 3 0 (V.ref 1 [] 112)).bind fun a8=>(AY [t0,t1] 3 a8).bind fun a9=>(AO .sub a7 a9).bind fun a10=>AQ 0 [t0,t1] a10)
  ((fA 112 3 1 (V.ref 0 [] 112)).bind fun a11=>(AY [t0,t1] 3 a11).bind fun a12=>(fA 112 3 1 (V.ref 1 [] 112)).bind fun a13=>(AY [t0,t1] 3 a13).bind fun a14=>(AO .sub a12 a14).bind fun a15=>AQ 0 [t0,t1] a15)else none else none:=
 Ai (by kernel_rfl)
theorem ANM (t0 t1:V):Cl 92 [t0,t1] []=
 (Cl 116 (AA [] [t0,t1]) []).bind fun a1=>(AO .geq a1.1 (V.int .i64 0)).bind fun a2=>AQ 0 [] a2:=
 Ai (by kernel_rfl)
theorem ANN (t0:V):Cl 93 [t0] []=
 (AO .mul t0 (V.int .u32 2654435761)).bind fun a1=>(AO .shr a1 (V.int .u64 15)).bind fun a2=>(AO .xor a1 a2).bind fun a3=>(AO .mul a3 (V.int .u32 2246822519)).bind fun a4=>(AO .shr a4 (V.int .u64 13)).bind fun a5=>(AO .xor a4 a5).bind fun a6=>AQ 0 [] a6:=
 Ai (by kernel_rfl)
def AGU (t1:V) (h:List V) (k:V→V→List V→Rv):Rv:=
 if(BJ P 55 t1&&V.under (List.length h) t1)=true then k (V.ref (List.length h) [] 55) (V.ref (List.length (h++[t1])) [] 55) ((h++[t1])++[zero P 55])else none
def AGV (h:List V) (k:V→List V→Rv):Rv:=
 (Cl 45 (AU []) h).bind fun r=>k r.1 r.2
def AGW (t0 t5:V) (h:List V) (k:List V→Rv):Rv:=
 (conv P h 3 93 t0).bind fun t9=>(Cl 46 (AU [t5,t9]) h).bind fun r=>k r.2
def AGX (t3 t4 t5:V) (h:List V) (k:List V→Rv):Rv:=
 (Bv P 68 1 [(0,(V.int .u8 3))]).bind fun t11=>(Cl 50 (AU [t5]) h).bind fun r=>(conv P r.2 9 68 r.1).bind fun t14=>(JY P 55 t3 none none none).bind fun t15=>(Bv P 182 3 [(0,t11),(1,t14),(2,t15)]).bind fun t16=>(Cl 117 (AA r.2 [t16]) []).bind fun a1=>(D8 P r.2 55 t4 a1.1).bind fun a1=>k a1
theorem ANO (t0 t1:V):Cl 94 [t0,t1] []=
 AGU t1 [] fun a1 a2 a3=>
  AGV a3 fun a4 a5=>
  AGW t0 a4 a5 fun a6=>
  AGX a1 a2 a4 a6 fun a7=>
  (AY a7 55 a2).bind fun a8=>AQ 0 a7 a8:=
 Ai (by kernel_rfl)
theorem AGY (t0:V):Cl 95 [t0] []=
 (EU (V.weak t0)).bind fun a1=>(AO .eql a1 (V.int .i64 0)).bind fun a2=>V.ite a2
  ((Hy 5 false (ck [(KW .u8) (V.int .u8 2)] [(V.int .u8 2)])).bind fun a3=>(Hy 68 true (ck [(IE 5) a3] [(V.weak a3)])).bind fun a4=>(Cl 117 (AA [(V.agg 54 (List.replicate 32 (V.int .u8 0)))] [a4]) []).bind fun a5=>(CJ (BI 54) 55 [(V.agg 54 (List.replicate 32 (V.int .u8 0)))] (V.ref 0 [] 55) a5.1).bind fun a6=>(AY a6 55 (V.ref 0 [] 55)).bind fun a7=>AQ 0 a6 a7)
  ((AO .eql a1 (V.int .i64 1)).bind fun a8=>V.ite a8
  ((ET 9 t0 (V.int .i64 0)).bind fun a9=>(AY [(V.agg 54 (List.replicate 32 (V.int .u8 0)))] 9 a9).bind fun a10=>(Cl 118 (AA [(V.agg 54 (List.replicate 32 (V.int .u8 0)))] [a10]) []).bind fun a11=>(CJ (BI 54) 55 [(V.agg 54 (List.replicate 32 (V.int .u8 0)))] (V.ref 0 [] 55) a11.1).bind fun a12=>(AY a12 55 (V.ref 0 [] 55)).bind fun a13=>AQ 0 a12 a13)
  ((EU (V.weak t0)).bind fun a14=>(Cl 119 (AA [(V.agg 54 (List.replicate 32 (V.int .u8 0)))] [a14]) []).bind fun a15=>(slL 9 (V.weak t0) none (some a15.1) (some a15.1)).bind fun a16=>(Cl 95 (AA [(V.agg 54 (List.replicate 32 (V.int .u8 0)))] [a16]) []).bind fun a17=>(slL 9 (V.weak t0) (some a15.1) none none).bind fun a18=>(Cl 95 (AA [(V.agg 54 (List.replicate 32 (V.int .u8 0)))] [a18]) []).bind fun a19=>(Cl 120 (AA [(V.agg 54 (List.replicate 32 (V.int .u8 0)))] [a17.1,a19.1]) []).bind fun a20=>(CJ (BI 54) 55 [(V.agg 54 (List.replicate 32 (V.int .u8 0)))] (V.ref 0 [] 55) a20.1).bind fun a21=>(AY a21 55 (V.ref 0 [] 55)).bind fun a22=>AQ 0 a21 a22)):=
 Ai (by kernel_rfl)
theorem Jy (t0:V):Cl 96 [t0] []=
 if((BI 80) t0&&V.under 0 t0)=true then jn (fun a1=>
 V.ite a1
  (AQ 0 [t0] (V.int .i64 100))
  (AQ 0 [t0] (V.int .i64 0))) (fun(a2:V→Rv)=>(fA 81 3 0 (V.ref 0 [] 81)).bind fun a3=>(AY [t0] 3 a3).bind fun a4=>(AO .lss a4 (V.int .i64 0)).bind fun a5=>V.ite a5 (a2 (V.bool true)) ((fA 81 3 0 (V.ref 0 [] 81)).bind fun a6=>(AY [t0] 3 a6).bind fun a7=>(AO .geq a7 (V.int .i64 64)).bind fun a8=>V.ite a8 (a2 (V.bool true)) ((fA 81 2 1 (V.ref 0 [] 81)).bind fun a9=>(AY [t0] 2 a9).bind fun a10=>(Cl 121 (AA [t0] [a10]) []).bind fun a11=>V.ite a11.1 (a2 (V.bool true)) ((fA 81 2 4 (V.ref 0 [] 81)).bind fun a12=>(AY [t0] 2 a12).bind fun a13=>(Cl 121 (AA [t0] [a13]) []).bind fun a14=>V.ite a14.1 (a2 (V.bool true)) ((fA 81 4 3 (V.ref 0 [] 81)).bind fun a15=>(AY [t0] 4 a15).bind fun a16=>(un .not a16).bind fun a17=>V.ite a17 ((fA 81 2 4 (V.ref 0 [] 81)).bind fun a18=>(AY [t0] 2 a18).bind fun a19=>(AO .neq a19 (V.int .i64 0)).bind fun a20=>a2 a20) (a2 (V.bool false)))))))else none:=
 Ai (by kernel_rfl)
def AGZ (t0 t1:V) (h:List V) (k:List V→Rv):Rv:=
 (conv P h 2 93 t1).bind fun t6=>(AO .shl t6 (V.int .u64 1)).bind fun t7=>(AO .shr t1 (V.int .u64 63)).bind fun t9=>(conv P h 2 93 t9).bind fun t10=>(AO .xor t7 t10).bind fun t11=>(Cl 46 (AU [t0,t11]) h).bind fun r=>k r.2
theorem ANP (t0 t1:V) (h:List V):Cl 97 [t0,t1] h=
 AGZ t0 t1 h fun a1=>
  if(List.all [] V.okE)=true then AQ (List.length h) a1 (V.tup [])else none:=
 Ai (by kernel_rfl)
theorem ANQ (t0:V):Cl 98 [t0] []=
 V.ite t0
  (AQ 0 [] (V.int .u64 1))
  (AQ 0 [] (V.int .u64 0)):=
 Ai (by kernel_rfl)
theorem ANR (t0:V):Cl 99 [t0] []=
 (Hz .u64 t0).bind fun a1=>(AO .mul a1 (V.int .u64 2654435761)).bind fun a2=>(AO .rem a2 (V.int .u64 4294967296)).bind fun a3=>(AO .quo a3 (V.int .u64 32768)).bind fun a4=>(AO .xor a3 a4).bind fun a5=>(AO .mul a5 (V.int .u64 2246822519)).bind fun a6=>(AO .rem a6 (V.int .u64 4294967296)).bind fun a7=>(AO .quo a7 (V.int .u64 8192)).bind fun a8=>(AO .xor a7 a8).bind fun a9=>(Hz .u32 a9).bind fun a10=>AQ 0 [] a10:=
 Ai (by kernel_rfl)
def AA7 (h:List V) (k:V→List V→Rv):Rv:=
 k (V.ref (List.length h) [] 55) (h++[zero P 55])
def AA8 (t0 t1 t4:V) (h:List V) (k:List V→Rv):Rv:=
 (conv P h 3 93 t0).bind fun t6=>(Cl 51 (AA h [t6]) []).bind fun r=>(AO .add (V.str [3]) r.1).bind fun t8=>(AO .add t8 t1).bind fun t10=>(Cl 123 (AA h [t10]) []).bind fun a1=>(Cl 122 (AA h [a1.1]) []).bind fun a2=>(D8 P h 55 t4 a2.1).bind fun a1=>k a1
theorem AI4 (t0 t1:V):Cl 100 [t0,t1] []=
 AA7 [] fun a1 a2=>
  AA8 t0 t1 a1 a2 fun a3=>
  (AY a3 55 a1).bind fun a4=>AQ 0 a3 a4:=
 Ai (by kernel_rfl)
theorem AA9 (t0:V):Cl 101 [t0] []=
 (EU (V.weak t0)).bind fun a1=>(AO .eql a1 (V.int .i64 0)).bind fun a2=>V.ite a2
  ((Cl 123 (AA [] [(V.str [2])]) []).bind fun a3=>AQ 0 [] a3.1)
  ((EU (V.weak t0)).bind fun a4=>(AO .eql a4 (V.int .i64 1)).bind fun a5=>V.ite a5
  ((ET 9 t0 (V.int .i64 0)).bind fun a6=>(AY [] 9 a6).bind fun a7=>(Cl 124 (AA [] [a7]) []).bind fun a8=>AQ 0 [] a8.1)
  ((EU (V.weak t0)).bind fun a9=>(Cl 125 (AA [] [a9]) []).bind fun a10=>(slL 9 (V.weak t0) none (some a10.1) none).bind fun a11=>(Cl 101 (AA [] [a11]) []).bind fun a12=>(slL 9 (V.weak t0) (some a10.1) none none).bind fun a13=>(Cl 101 (AA [] [a13]) []).bind fun a14=>(Cl 126 (AA [] [a12.1,a14.1]) []).bind fun a15=>AQ 0 [] a15.1)):=
 Ai (by kernel_rfl)
theorem AI5 (t0:V):Cl 102 [t0] []=
 if((BI 80) t0&&V.under 0 t0)=true then jn (fun a1=>
 AQ 0 [t0] a1) (fun(a2:V→Rv)=>(fA 81 3 0 (V.ref 0 [] 81)).bind fun a3=>(AY [t0] 3 a3).bind fun a4=>(AO .geq a4 (V.int .i64 0)).bind fun a5=>V.ite a5 ((fA 81 3 0 (V.ref 0 [] 81)).bind fun a6=>(AY [t0] 3 a6).bind fun a7=>(AO .lss a7 (V.int .i64 64)).bind fun a8=>V.ite a8 ((fA 81 2 1 (V.ref 0 [] 81)).bind fun a9=>(AY [t0] 2 a9).bind fun a10=>(Cl 58 (AA [t0] [a10]) []).bind fun a11=>(un .not a11.1).bind fun a12=>V.ite a12 ((fA 81 2 4 (V.ref 0 [] 81)).bind fun a13=>(AY [t0] 2 a13).bind fun a14=>(Cl 58 (AA [t0] [a14]) []).bind fun a15=>(un .not a15.1).bind fun a16=>V.ite a16 ((fA 81 4 3 (V.ref 0 [] 81)).bind fun a17=>(AY [t0] 4 a17).bind fun a18=>V.ite a18 (a2 (V.bool true)) ((fA 81 2 4 (V.ref 0 [] 81)).bind fun a19=>(AY [t0] 2 a19).bind fun a20=>(AO .eql a20 (V.int .i64 0)).bind fun a21=>a2 a21)) (a2 (V.bool false))) (a2 (V.bool false))) (a2 (V.bool false))) (a2 (V.bool false)))else none:=
 Ai (by kernel_rfl)
theorem ABA (t0:V):Cl 103 [t0] []=
 (AO .geq t0 (V.int .i64 0)).bind fun a1=>V.ite a1
  ((Hz .u64 t0).bind fun a2=>(AO .mul (V.int .u64 2) a2).bind fun a3=>(Cl 51 (AA [] [a3]) []).bind fun a4=>AQ 0 [] a4.1)
  ((AO .sub (V.int .i64 (-1)) t0).bind fun a5=>(Hz .u64 a5).bind fun a6=>(AO .mul (V.int .u64 2) a6).bind fun a7=>(AO .add a7 (V.int .u64 1)).bind fun a8=>(Cl 51 (AA [] [a8]) []).bind fun a9=>AQ 0 [] a9.1):=
 Ai (by kernel_rfl)
theorem AI6 (t0:V):Cl 104 [t0] []=
 V.ite t0
  (AQ 0 [] (V.str [1]))
  (AQ 0 [] (V.str [0])):=
 Ai (by kernel_rfl)
def ABB (k:Rv):Rv:=
 k
def ABC (t0:V) (k:V→Rv):Rv:=
 (AO .geq t0 (V.int .i64 0)).bind fun t4=>V.ite t4 ((AO .lss t0 (V.int .i64 64)).bind fun t7=>k t7) (k (V.bool false))
theorem AI7 (t0:V):Cl 105 [t0] []=
 ABB (ABC t0 fun a1=>
  AQ 0 [] a1):=
 Ai (by kernel_rfl)
def ABD (k:Rv):Rv:=
 k
def ABE (t0:V) (h:List V) (k:V→List V→Rv):Rv:=
 (DW P 31 h (V.lst 108 .nil []) t0).bind fun v=>(DV h v).bind fun r=>k r.1 r.2
def ABF (t3:V) (h:List V) (k:List V→Rv):Rv:=
 (aps 2000128 108 [(V.weak t3),(V.clo 128 [])] h).bind fun r=>k r.2
def ABG (t3:V) (k:V→Rv):Rv:=
 k t3
theorem AI8 (t0:V):Cl 106 [t0] []=
 ABD (ABE t0 [] fun a1 a2=>
  ABF a1 a2 fun a3=>
  ABG a1 fun a4=>
  AQ 0 a3 a4):=
 Ai (by kernel_rfl)
def ABH (t0:V) (h:List V) (k:V→List V→Rv):Rv:=
 if(BJ P 108 t0&&V.under (List.length h) t0)=true then k (V.ref (List.length h) [] 108) (h++[t0])else none
def ABJ (t1:V) (h:List V) (k:V→Rv):Rv:=
 (Ap P 108 0 t1).bind fun t4=>(AY h 3 t4).bind fun t5=>(AO .lss t5 (V.int .i64 0)).bind fun t6=>V.ite t6 (k (V.bool true)) ((Ap P 108 1 t1).bind fun t8=>(AY h 3 t8).bind fun t9=>(AO .lss t9 (V.int .i64 0)).bind fun t10=>k t10)
def VQ (k:V→Rv):Rv:=
 k (V.str [])
def ABK (h:List V) (k:V→List V→Rv):Rv:=
 (Cl 45 (AU []) h).bind fun r=>k r.1 r.2
def ABL (t1 t3:V) (h:List V) (k:List V→Rv):Rv:=
 (Ap P 108 0 t1).bind fun t14=>(AY h 3 t14).bind fun t15=>(conv P h 3 93 t15).bind fun t16=>(Cl 46 (AU [t3,t16]) h).bind fun r=>k r.2
def ABM (t1 t3:V) (h:List V) (k:List V→Rv):Rv:=
 (Ap P 108 1 t1).bind fun t19=>(AY h 3 t19).bind fun t20=>(conv P h 3 93 t20).bind fun t21=>(Cl 46 (AU [t3,t21]) h).bind fun r=>k r.2
def ABN (t1 t3:V) (h:List V) (k:List V→Rv):Rv:=
 (Ap P 108 2 t1).bind fun t24=>(AY h 2 t24).bind fun t25=>(Cl 97 (AU [t3,t25]) h).bind fun r=>k r.2
def ABO (t3:V) (h:List V) (k:V→List V→Rv):Rv:=
 (Cl 50 (AU [t3]) h).bind fun r=>k r.1 r.2
theorem AI9 (t0:V):Cl 107 [t0] []=
 ABH t0 [] fun a1 a2=>
  ABJ a1 a2 fun a3=>
  V.ite a3
  (VQ fun a4=>
  AQ 0 a2 a4)
  (ABK a2 fun a5 a6=>
  ABL a1 a5 a6 fun a7=>
  ABM a1 a5 a7 fun a8=>
  ABN a1 a5 a8 fun a9=>
  ABO a5 a9 fun a10 a11=>
  AQ 0 a11 a10):=
 Ai (by kernel_rfl)
def ABP (k:Rv):Rv:=
 k
def ABQ (t0:V) (h:List V) (k:V→V→V→Rv):Rv:=
 (Cl 79 (AA h [t0]) []).bind fun r=>(ext r.1 0).bind fun t12=>(ext r.1 1).bind fun t13=>(ext r.1 2).bind fun t14=>k t12 t13 t14
def ABR (t8:V) (k:V→Rv):Rv:=
 (AO .neq t8 (V.int .i64 0)).bind fun t17=>k t17
def ABS (t8:V) (k:V→V→Rv):Rv:=
 k (V.int .i64 0) t8
def ABT (t1 t6:V) (h:List V) (k:V→Rv):Rv:=
 (AY h 3 t1).bind fun t20=>(AO .lss t20 (V.int .i64 0)).bind fun t21=>V.ite t21 (k (V.bool true)) ((AY h 3 t1).bind fun t24=>(conv P h 3 93 t24).bind fun t25=>(AO .gtr t6 t25).bind fun t26=>k t26)
def ABU (k:V→V→Rv):Rv:=
 k (V.int .i64 0) (V.int .i64 22)
def ABV (t0 t6 t7:V) (h:List V) (k:V→Rv):Rv:=
 (lenV P 9 t0).bind fun t31=>(AO .sub t31 t7).bind fun t33=>(conv P h 3 93 t33).bind fun t34=>(AO .gtr t6 t34).bind fun t35=>k t35
def ABW (k:V→V→Rv):Rv:=
 k (V.int .i64 0) (V.int .i64 20)
def ABX (t0 t2 t6 t7:V) (h:List V) (k:List V→Rv):Rv:=
 (conv P h 93 3 t6).bind fun t40=>(AO .add t7 t40).bind fun t41=>(JY P 9 t0 (some t7) (some t41) none).bind fun t42=>(D8 P h 9 t2 t42).bind fun a1=>k a1
def ABY (t6 t7:V) (h:List V) (k:V→V→Rv):Rv:=
 (conv P h 93 3 t6).bind fun t45=>(AO .add t7 t45).bind fun t46=>k t46 (V.int .i64 0)
theorem AJA (t0 t1 t2:V) (h:List V):Cl 109 [t0,t1,t2] h=
 ABP (ABQ t0 h fun a1 a2 a3=>
  ABR a3 fun a4=>
  V.ite a4
  (ABS a3 fun a5 a6=>
  if(List.all [a6,a5] V.okE)=true then AQ (List.length h) h (V.tup [a5,a6])else none)
  (ABT t1 a1 h fun a7=>
  V.ite a7
  (ABU fun a8 a9=>
  if(List.all [a9,a8] V.okE)=true then AQ (List.length h) h (V.tup [a8,a9])else none)
  (ABV t0 a1 a2 h fun a10=>
  V.ite a10
  (ABW fun a11 a12=>
  if(List.all [a12,a11] V.okE)=true then AQ (List.length h) h (V.tup [a11,a12])else none)
  (ABX t0 t2 a1 a2 h fun a13=>
  ABY a1 a2 a13 fun a14 a15=>
  if(List.all [a15,a14] V.okE)=true then AQ (List.length h) a13 (V.tup [a14,a15])else none)))):=
 Ai (by kernel_rfl)
theorem AJB (t0 t1:V) (h:List V):Cl 110 [t0,t1] h=
 (lnS t0).bind fun a1=>(AO .lss a1 (V.int .i64 32)).bind fun a2=>V.ite a2
  (if(List.all [(V.int .i64 20),(V.int .i64 0)] V.okE)=true then AQ (List.length h) h (V.tup [(V.int .i64 0),(V.int .i64 20)])else none)
  ((slA 55 54 32 5 t1 none none none).bind fun a3=>(cpy P 68 h a3 t0).bind fun a4=>if(List.all [(V.int .i64 0),a4.1] V.okE)=true then AQ (List.length h) a4.2 (V.tup [a4.1,(V.int .i64 0)])else none):=
 Ai (by kernel_rfl)
def ABZ (h:List V) (k:V→List V→Rv):Rv:=
 k (V.ref (List.length h) [] 108) (h++[zero P 108])
def ABa (t0:V) (h:List V) (k:V→List V→Rv):Rv:=
 (Cl 54 (AU [t0]) h).bind fun r=>k r.1 r.2
def ABb (k:V→Rv):Rv:=
 k (V.clo 130 [])
def ABc (t4 t5:V) (h:List V) (k:V→List V→Rv):Rv:=
 (Cl 55 (AU [t4]) h).bind fun r=>CG P DZ W t5 [r.1] r.2 fun t12 a1=>if V.noOwn t12=true then(Cl 55 (AU [t4]) a1).bind fun a1=>CG P DZ W t5 [a1.1] a1.2 fun t16 a2=>if V.noOwn t16=true then(Cl 131 (AU [t4]) a2).bind fun a2=>(WU P 108 [(0,t12),(1,t16),(2,a2.1)]).bind fun t19=>(D8 P (a2.2++[zero P 108]) 108 (V.ref (List.length a2.2) [] 108) t19).bind fun a3=>k (V.ref (List.length a2.2) [] 108) a3 else none else none
def VS (t2 t4 t6:V) (h:List V) (k:V→List V→Rv):Rv:=
 if Dx t6 t6=true then(AY h 108 t6).bind fun t20=>Bl P DZ W (some t6) (V.clo 86 []) [t4] h fun t22 a1=>(D8 P a1 108 t2 t20).bind fun a2=>k t22 a2 else none
theorem AJC (t0:V):Cl 111 [t0] []=
 ABZ [] fun a1 a2=>
  ABa t0 a2 fun a3 a4=>
  ABb fun a5=>
  ABc a3 a5 a4 fun a6 a7=>
  VS a1 a3 a6 a7 fun a8 a9=>
  (AY a9 108 a1).bind fun a10=>if(List.all [a8,a10] V.okE)=true then AQ 0 a9 (V.tup [a10,a8])else none:=
 Ai (by kernel_rfl)
def Nv (t0 t1 t7 t8:V) (n:Nat) (h:List V):Rv:=lp W 112 0 (cd 112 37) (bk 0 (sk 112 0 7 (lv 112 n))) ⟨[(0,t0),(1,t1),(7,t7),(8,t8)],h⟩
theorem O6 (t0 t1 t7 t8:V) (n:Nat) (h:List V):Nv t0 t1 t7 t8 n h=
 (AO .lss t8 t7).bind fun a2=>V.ite a2
  ((ET 112 (V.weak t0) t8).bind fun a3=>(AY h 112 a3).bind fun a4=>CG P DZ W t1 [a4] h fun a5 a6=>if V.noOwn a5=true then V.ite a5
  (AQ n a6 t8)
  ((AO .add t8 (V.int .i64 1)).bind fun a7=>Nv t0 t1 t7 a7 n a6)else none)
  (AQ n h (V.int .i64 (-1))):=
 Bz (by kernel_rfl)
theorem AJD (t0 t1:V) (h:List V):Cl 112 [t0,t1] h=
 (EU (V.weak t0)).bind fun a1=>Nv t0 t1 a1 (V.int .i64 0) (List.length h) h:=
 Ai (by kernel_rfl)
theorem AJE (t0:V) (h:List V):Cl 113 [t0] h=
 (aps 115 112 [(V.lst 112 .nil []),t0] h).bind fun a1=>Wj a1.2 a1.1:=
 Ai (by kernel_rfl)
def Nw (t0 t1 t7 t8:V):Rv:=lp W 116 0 (cd 116 37) (bk 0 (sk 116 0 7 (lv 116 0))) ⟨[(0,t0),(1,t1),(7,t7),(8,t8)],[]⟩
theorem O7 (t0 t1 t7 t8:V):Nw t0 t1 t7 t8=
 (AO .lss t8 t7).bind fun a2=>V.ite a2
  ((ET 9 (V.weak t0) t8).bind fun a3=>(AY [] 9 a3).bind fun a4=>(AO .eql t1 a4).bind fun a5=>V.ite a5
  (AQ 0 [] t8)
  ((AO .add t8 (V.int .i64 1)).bind fun a6=>Nw t0 t1 t7 a6))
  (AQ 0 [] (V.int .i64 (-1))):=
 Bz (by kernel_rfl)
theorem AJF (t0 t1:V):Cl 116 [t0,t1] []=
 (EU (V.weak t0)).bind fun a1=>Nw t0 t1 a1 (V.int .i64 0):=
 Ai (by kernel_rfl)
def ABd (h:List V) (k:V→List V→Rv):Rv:=
 k (V.ref (List.length h) [] 55) (h++[zero P 55])
def ABe (t0:V) (h:List V) (k:V→Rv):Rv:=
 (Cl 135 (AA h [t0,(V.lst 5 .nil [])]) []).bind fun r=>k r.1
def ABf (t3:V) (h:List V) (k:V→Rv):Rv:=
 (lenV P 68 (V.weak t3)).bind fun t12=>(conv P h 3 93 t12).bind fun t13=>(AO .mul t13 (V.int .u64 8)).bind fun t14=>k t14
def ABg (t3:V) (h:List V) (k:V→Rv):Rv:=
 (Bv P 68 1 [(0,(V.int .u8 128))]).bind fun t16=>(DW P 68 h t3 t16).bind fun t17=>k t17
def Ny (t2 t3 t4:V) (h:List V):Rv:=lp W 117 0 (cd 117 143) (bk 0 (sk 117 0 63 (lv 117 0))) ⟨[(2,t2),(3,t3),(4,t4)],h⟩
def VT (t3:V) (k:V→Rv):Rv:=
 (lenV P 68 (V.weak t3)).bind fun t19=>(AO .rem t19 (V.int .i64 64)).bind fun t20=>(AO .neq t20 (V.int .i64 56)).bind fun t21=>k t21
def ABh (t3:V) (h:List V) (k:V→Rv):Rv:=
 (Bv P 68 1 [(0,(V.int .u8 0))]).bind fun t23=>(DW P 68 h t3 t23).bind fun t24=>k t24
def ABi (k:V→Rv):Rv:=
 k (V.int .i64 0)
def Nz (t2 t3 t4 t25:V) (h:List V):Rv:=lp W 117 2 (cd 117 607) (bk 2 (sk 117 0 127 (lv 117 0))) ⟨[(2,t2),(3,t3),(4,t4),(25,t25)],h⟩
def VU (t25:V) (k:V→Rv):Rv:=
 (AO .lss t25 (V.int .i64 8)).bind fun t26=>k t26
def ABj (t25:V) (k:V→Rv):Rv:=
 k t25
def ABk (t3 t4 t5:V) (h:List V) (k:V→Rv):Rv:=
 (AO .mul (V.int .i64 8) t5).bind fun t31=>(AO .sub (V.int .i64 56) t31).bind fun t32=>(conv P h 3 126 t32).bind fun t33=>(AO .shr t4 t33).bind fun t34=>(conv P h 93 5 t34).bind fun t35=>(Bv P 68 1 [(0,t35)]).bind fun t36=>(DW P 68 h t3 t36).bind fun t37=>k t37
def Wy (t25:V) (k:V→Rv):Rv:=
 (AO .add t25 (V.int .i64 1)).bind fun t38=>k t38
def W9 (h:List V) (k:V→List V→Rv):Rv:=
 (AY h 184 (V.rop 184 Sv)).bind fun t39=>(D8 P (h++[zero P 184]) 184 (V.ref (List.length h) [] 184) t39).bind fun a1=>k (V.ref (List.length h) [] 184) a1
def N7 (t2 t3 t6:V) (h:List V):Rv:=lp W 117 4 (cd 117 1151) (bk 4 (sk 117 0 511 (lv 117 0))) ⟨[(2,t2),(3,t3),(6,t6)],h⟩
def O8 (t3:V) (k:V→Rv):Rv:=
 (lenV P 68 (V.weak t3)).bind fun t41=>(AO .gtr t41 (V.int .i64 0)).bind fun t42=>k t42
def XA (t3 t6:V) (h:List V) (k:List V→Rv):Rv:=
 (AY h 184 t6).bind fun t45=>(JY P 68 (V.weak t3) none (some (V.int .i64 64)) none).bind fun t47=>(Cl 136 (AA h [t45,t47]) []).bind fun r=>(D8 P h 184 t6 r.1).bind fun a1=>k a1
def XB (t3:V) (k:V→Rv):Rv:=
 (JY P 68 t3 (some (V.int .i64 64)) none none).bind fun t44=>k t44
def XC (h:List V) (k:V→List V→Rv):Rv:=
 k (V.ref (List.length h) [] 55) (h++[zero P 55])
def XD (k:V→Rv):Rv:=
 k (V.int .i64 0)
def N8 (t2 t6 t7 t49:V) (h:List V):Rv:=lp W 117 6 (cd 117 9727) (bk 6 (sk 117 0 2047 (lv 117 0))) ⟨[(2,t2),(6,t6),(7,t7),(49,t49)],h⟩
def O9 (t49:V) (k:V→Rv):Rv:=
 (AO .lss t49 (V.int .i64 32)).bind fun t50=>k t50
def XE (t49:V) (k:V→Rv):Rv:=
 k t49
def PD (t6 t7 t8:V) (h:List V) (k:List V→Rv):Rv:=
 (AO .quo t8 (V.int .i64 4)).bind fun t54=>(AX P 184 t6 t54).bind fun t55=>(AY h 149 t55).bind fun t56=>(AO .rem t8 (V.int .i64 4)).bind fun t58=>(AO .mul (V.int .i64 8) t58).bind fun t59=>(AO .sub (V.int .i64 24) t59).bind fun t60=>(conv P h 3 126 t60).bind fun t61=>(AO .shr t56 t61).bind fun t62=>(conv P h 149 5 t62).bind fun t63=>(AX P 55 t7 t8).bind fun t64=>(D8 P h 5 t64 t63).bind fun a1=>k a1
def XF (t49:V) (k:V→Rv):Rv:=
 (AO .add t49 (V.int .i64 1)).bind fun t65=>k t65
def XG (t2 t7:V) (h:List V) (k:List V→Rv):Rv:=
 (AY h 55 t7).bind fun t66=>(D8 P h 55 t2 t66).bind fun a1=>k a1
theorem PE (t2 t6 t7 t49:V) (h:List V):N8 t2 t6 t7 t49 h=
 O9 t49 fun a21=>
  V.ite a21
  (XE t49 fun a22=>
  PD t6 t7 a22 h fun a23=>
  XF t49 fun a24=>
  N8 t2 t6 t7 a24 a23)
  (XG t2 t7 h fun a25=>
  (AY a25 55 t2).bind fun a26=>AQ 0 a25 a26):=
 Bz (by kernel_rfl)
theorem PG (t2 t3 t6:V) (h:List V):N7 t2 t3 t6 h=
 O8 t3 fun a15=>
  V.ite a15
  (XA t3 t6 h fun a16=>
  XB t3 fun a17=>
  N7 t2 a17 t6 a16)
  (XC h fun a18 a19=>
  XD fun a20=>
  N8 t2 t6 a18 a20 a19):=
 Bz (by kernel_rfl)
theorem PI (t2 t3 t4 t25:V) (h:List V):Nz t2 t3 t4 t25 h=
 VU t25 fun a9=>
  V.ite a9
  (ABj t25 fun a10=>
  ABk t3 t4 a10 h fun a11=>
  Wy t25 fun a12=>
  Nz t2 a11 t4 a12 h)
  (W9 h fun a13 a14=>
  N7 t2 t3 a13 a14):=
 Bz (by kernel_rfl)
theorem PK (t2 t3 t4:V) (h:List V):Ny t2 t3 t4 h=
 VT t3 fun a6=>
  V.ite a6
  (ABh t3 h fun a7=>
  Ny t2 a7 t4 h)
  (ABi fun a8=>
  Nz t2 t3 t4 a8 h):=
 Bz (by kernel_rfl)
theorem AJG (t0:V):Cl 117 [t0] []=
 ABd [] fun a1 a2=>
  ABe t0 a2 fun a3=>
  ABf a3 a2 fun a4=>
  ABg a3 a2 fun a5=>
  Ny a1 a5 a4 a2:=
 Ai (by kernel_rfl)
def ABl (h:List V) (k:V→List V→Rv):Rv:=
 k (V.ref (List.length h) [] 55) (h++[zero P 55])
def ABm (t0 t2:V) (h:List V) (k:List V→Rv):Rv:=
 (Bv P 68 1 [(0,(V.int .u8 0))]).bind fun t3=>(conv P h 9 68 t0).bind fun t5=>(Bv P 182 2 [(0,t3),(1,t5)]).bind fun t6=>(Cl 117 (AA h [t6]) []).bind fun r=>(D8 P h 55 t2 r.1).bind fun a1=>k a1
theorem AJH (t0:V):Cl 118 [t0] []=
 ABl [] fun a1 a2=>
  ABm t0 a1 a2 fun a3=>
  (AY a3 55 a1).bind fun a4=>AQ 0 a3 a4:=
 Ai (by kernel_rfl)
def N9 (t0 t3:V):Rv:=lp W 119 0 (cd 119 71) (bk 0 (sk 119 0 31 (lv 119 0))) ⟨[(0,t0),(3,t3)],[]⟩
theorem Zd (t0 t3:V):N9 t0 t3=
 (AO .sub t0 t3).bind fun a2=>(AO .lss t3 a2).bind fun a3=>V.ite a3
  ((AO .mul t3 (V.int .i64 2)).bind fun a4=>N9 t0 a4)
  (AQ 0 [] t3):=
 Bz (by kernel_rfl)
theorem AJI (t0:V):Cl 119 [t0] []=
 (AO .lss t0 (V.int .i64 2)).bind fun a1=>V.ite a1
  (AQ 0 [] (V.int .i64 0))
  (N9 t0 (V.int .i64 1)):=
 Ai (by kernel_rfl)
theorem AJJ (t0 t1:V):Cl 120 [t0,t1] []=
 if((BI 54) t0&&V.under 0 t0)=true then if((BI 54) t1&&V.under 1 t1)=true then(Hy 5 false (ck [(KW .u8) (V.int .u8 1)] [(V.int .u8 1)])).bind fun a1=>(slA 55 54 32 5 (V.ref 0 [] 55) none none none).bind fun a2=>(slA 55 54 32 5 (V.ref 1 [] 55) none none none).bind fun a3=>(Hy 68 true (ck [(IE 5) a1,(IE 5) a2,(IE 5) a3] [(V.weak a1),(V.weak a2),(V.weak a3)])).bind fun a4=>(Cl 117 (AA [t0,t1,(V.agg 54 (List.replicate 32 (V.int .u8 0)))] [a4]) []).bind fun a5=>(CJ (BI 54) 55 [t0,t1,(V.agg 54 (List.replicate 32 (V.int .u8 0)))] (V.ref 2 [] 55) a5.1).bind fun a6=>(AY a6 55 (V.ref 2 [] 55)).bind fun a7=>AQ 0 a6 a7 else none else none:=
 Ai (by kernel_rfl)
theorem AJK (t0:V):Cl 121 [t0] []=
 jn (fun a1=>
 AQ 0 [] a1) (fun(a2:V→Rv)=>(AO .gtr t0 (V.int .i64 1125899906842624)).bind fun a3=>V.ite a3 (a2 (V.bool true)) ((AO .lss t0 (V.int .i64 (-1125899906842624))).bind fun a4=>a2 a4)):=
 Ai (by kernel_rfl)
def ABn (h:List V) (k:V→List V→Rv):Rv:=
 k (V.ref (List.length h) [] 55) (h++[zero P 55])
def ABo (h:List V) (k:V→List V→Rv):Rv:=
 (WU P 55 []).bind fun t5=>(D8 P (h++[zero P 55]) 55 (V.ref (List.length h) [] 55) t5).bind fun a1=>k (V.ref (List.length h) [] 55) a1
def ABp (k:V→Rv):Rv:=
 k (V.int .i64 0)
def OA (t0 t2 t3 t4:V) (h:List V):Rv:=lp W 122 0 (cd 122 75) (bk 0 (sk 122 0 15 (lv 122 0))) ⟨[(0,t0),(2,t2),(3,t3),(4,t4)],h⟩
def VW (t0 t4:V) (k:V→Rv):Rv:=
 (AO .lss t4 (V.int .i64 32)).bind fun t7=>V.ite t7 ((lenV P 9 t0).bind fun t11=>(AO .lss t4 t11).bind fun t12=>k t12) (k (V.bool false))
def ABq (t0 t3 t4:V) (h:List V) (k:List V→Rv):Rv:=
 (GX P 9 t0 t4).bind fun t19=>(AX P 55 t3 t4).bind fun t20=>(D8 P h 5 t20 t19).bind fun a1=>k a1
def ABr (t4:V) (k:V→Rv):Rv:=
 (AO .add t4 (V.int .i64 1)).bind fun t15=>k t15
def ABs (t2 t3:V) (h:List V) (k:List V→Rv):Rv:=
 (AY h 55 t3).bind fun t21=>(D8 P h 55 t2 t21).bind fun a1=>k a1
theorem PL (t0 t2 t3 t4:V) (h:List V):OA t0 t2 t3 t4 h=
 VW t0 t4 fun a6=>
  V.ite a6
  (ABq t0 t3 t4 h fun a7=>
  ABr t4 fun a8=>
  OA t0 t2 t3 a8 a7)
  (ABs t2 t3 h fun a9=>
  (AY a9 55 t2).bind fun a10=>AQ 0 a9 a10):=
 Bz (by kernel_rfl)
theorem AJL (t0:V):Cl 122 [t0] []=
 ABn [] fun a1 a2=>
  ABo a2 fun a3 a4=>
  ABp fun a5=>
  OA t0 a1 a3 a5 a4:=
 Ai (by kernel_rfl)
def ABt (k:Rv):Rv:=
 k
def ABu (t0:V) (h:List V) (k:V→Rv):Rv:=
 (conv P h 9 68 t0).bind fun t26=>(Bv P 68 1 [(0,(V.int .u8 128))]).bind fun t27=>(DW P 68 h t26 t27).bind fun t28=>k t28
def OB (t0 t3:V) (h:List V):Rv:=lp W 123 0 (cd 123 35) (bk 0 (sk 123 0 15 (lv 123 0))) ⟨[(0,t0),(3,t3)],h⟩
def VX (t3:V) (k:V→Rv):Rv:=
 (lenV P 68 (V.weak t3)).bind fun t30=>(AO .rem t30 (V.int .i64 64)).bind fun t31=>(AO .neq t31 (V.int .i64 56)).bind fun t32=>k t32
def ABv (t3:V) (h:List V) (k:V→Rv):Rv:=
 (Bv P 68 1 [(0,(V.int .u8 0))]).bind fun t34=>(DW P 68 h t3 t34).bind fun t35=>k t35
def ABw (t0:V) (h:List V) (k:V→Rv):Rv:=
 (lenV P 9 t0).bind fun t37=>(AO .mul (V.int .i64 8) t37).bind fun t38=>(conv P h 3 93 t38).bind fun t39=>k t39
def ABx (k:V→Rv):Rv:=
 k (V.int .i64 7)
def OC (t3 t4 t5:V) (h:List V):Rv:=lp W 123 2 (cd 123 303) (bk 2 (sk 123 0 63 (lv 123 0))) ⟨[(3,t3),(4,t4),(5,t5)],h⟩
def VY (t5:V) (k:V→Rv):Rv:=
 (AO .geq t5 (V.int .i64 0)).bind fun t41=>k t41
def ABy (t3 t4 t5:V) (h:List V) (k:V→Rv):Rv:=
 (AO .mul (V.int .i64 8) t5).bind fun t47=>(Cl 137 (AA h [t47]) []).bind fun r=>(AO .quo t4 r.1).bind fun t49=>(AO .rem t49 (V.int .u64 256)).bind fun t50=>(conv P h 93 5 t50).bind fun t51=>(Bv P 68 1 [(0,t51)]).bind fun t52=>(DW P 68 h t3 t52).bind fun t53=>k t53
def ABz (t5:V) (k:V→Rv):Rv:=
 (AO .sub t5 (V.int .i64 1)).bind fun t43=>k t43
def AB0 (h:List V) (k:V→Rv):Rv:=
 (Cl 138 (AA h []) []).bind fun r=>k r.1
def XH (h:List V) (k:V→List V→Rv):Rv:=
 (Bv P 187 8 [(0,(V.int .u64 1779033703)),(1,(V.int .u64 3144134277)),(2,(V.int .u64 1013904242)),(3,(V.int .u64 2773480762)),(4,(V.int .u64 1359893119)),(5,(V.int .u64 2600822924)),(6,(V.int .u64 528734635)),(7,(V.int .u64 1541459225))]).bind fun v=>(DV h v).bind fun r=>k r.1 r.2
def XI (k:V→Rv):Rv:=
 k (V.int .i64 0)
def Eh (t3 t6 t7 t8:V) (h:List V):Rv:=lp W 123 4 (cd 123 2431) (bk 4 (sk 123 0 511 (lv 123 0))) ⟨[(3,t3),(6,t6),(7,t7),(8,t8)],h⟩
def PN (t3 t8:V) (k:V→Rv):Rv:=
 (lenV P 68 (V.weak t3)).bind fun t58=>(AO .lss t8 t58).bind fun t59=>k t59
def XJ (k:V→Rv):Rv:=
 (Bv P 187 0 []).bind fun t62=>k t62
def XK (k:V→Rv):Rv:=
 k (V.int .i64 0)
def I9 (t3 t6 t7 t8 t9 t10:V) (m4:Nat) (h:List V):Rv:=lp W 123 6 (cd 123 608639) (bk 6 (sk 123 5 117119 (bk 5 (sk 123 4 14719 (lk 123 4 m4 2431 (bk 4 (sk 123 0 511 (lv 123 0)))))))) ⟨[(3,t3),(6,t6),(7,t7),(8,t8),(9,t9),(10,t10)],h⟩
def KX (t10:V) (k:V→Rv):Rv:=
 (AO .lss t10 (V.int .i64 64)).bind fun t64=>k t64
def PO (t10:V) (k:V→Rv):Rv:=
 (AO .lss t10 (V.int .i64 16)).bind fun t68=>k t68
def XL (t3 t8 t10:V) (k:V→Rv):Rv:=
 (AO .mul (V.int .i64 4) t10).bind fun t72=>(AO .add t8 t72).bind fun t73=>(AO .mul (V.int .i64 4) t10).bind fun t76=>(AO .add t8 t76).bind fun t77=>(AO .add t77 (V.int .i64 4)).bind fun t78=>(JY P 68 (V.weak t3) (some t73) (some t78) none).bind fun t79=>k t79
def PS (t9 t11:V) (h:List V) (k:V→Rv):Rv:=
 (AX P 68 (V.weak t11) (V.int .i64 0)).bind fun t82=>(AY h 5 t82).bind fun t83=>(conv P h 5 93 t83).bind fun t84=>(AO .mul t84 (V.int .u64 16777216)).bind fun t85=>(AX P 68 (V.weak t11) (V.int .i64 1)).bind fun t87=>(AY h 5 t87).bind fun t88=>(conv P h 5 93 t88).bind fun t89=>(AO .mul t89 (V.int .u64 65536)).bind fun t90=>(AO .add t85 t90).bind fun t91=>(AX P 68 (V.weak t11) (V.int .i64 2)).bind fun t93=>(AY h 5 t93).bind fun t94=>(conv P h 5 93 t94).bind fun t95=>(AO .mul t95 (V.int .u64 256)).bind fun t96=>(AO .add t91 t96).bind fun t97=>(AX P 68 (V.weak t11) (V.int .i64 3)).bind fun t99=>(AY h 5 t99).bind fun t100=>(conv P h 5 93 t100).bind fun t101=>(AO .add t97 t101).bind fun t102=>(Bv P 187 1 [(0,t102)]).bind fun t103=>(DW P 187 h t9 t103).bind fun t104=>k t104
def KY (t10:V) (k:V→Rv):Rv:=
 (AO .add t10 (V.int .i64 1)).bind fun t66=>k t66
def PU (t9 t10:V) (h:List V) (k:V→V→Rv):Rv:=
 (AO .sub t10 (V.int .i64 15)).bind fun t107=>(AX P 187 (V.weak t9) t107).bind fun t108=>(AY h 93 t108).bind fun t109=>(AO .sub t10 (V.int .i64 2)).bind fun t112=>(AX P 187 (V.weak t9) t112).bind fun t113=>(AY h 93 t113).bind fun t114=>k t109 t114
def PV (t9 t10 t12 t13:V) (h:List V) (k:V→Rv):Rv:=
 (AO .sub t10 (V.int .i64 16)).bind fun t118=>(AX P 187 (V.weak (V.weak t9)) t118).bind fun t119=>(AY h 93 t119).bind fun t120=>(AO .sub t10 (V.int .i64 7)).bind fun t123=>(AX P 187 (V.weak (V.weak t9)) t123).bind fun t124=>(AY h 93 t124).bind fun t125=>(AO .add t120 t125).bind fun t126=>(Cl 140 (AA h [t12,(V.int .i64 7)]) []).bind fun r=>(Cl 140 (AA h [t12,(V.int .i64 18)]) []).bind fun a1=>(AO .xor r.1 a1.1).bind fun t131=>(AO .quo t12 (V.int .u64 8)).bind fun t133=>(AO .xor t131 t133).bind fun t134=>(AO .add t126 t134).bind fun t135=>(Cl 140 (AA h [t13,(V.int .i64 17)]) []).bind fun a2=>(Cl 140 (AA h [t13,(V.int .i64 19)]) []).bind fun a3=>(AO .xor a2.1 a3.1).bind fun t140=>(AO .quo t13 (V.int .u64 1024)).bind fun t142=>(AO .xor t140 t142).bind fun t143=>(AO .add t135 t143).bind fun t144=>(Cl 139 (AA h [t144]) []).bind fun a4=>(Bv P 187 1 [(0,a4.1)]).bind fun t146=>(DW P 187 h t9 t146).bind fun t147=>k t147
def PW (t7:V) (h:List V) (k:V→Rv):Rv:=
 (Bv P 187 0 []).bind fun t148=>(DW P 187 h t148 (V.weak t7)).bind fun t150=>k t150
def XM (k:V→Rv):Rv:=
 k (V.int .i64 0)
def OD (t3 t6 t7 t8 t9 t14 t15:V) (m4:Nat) (h:List V):Rv:=lp W 123 8 (cd 123 2476415) (bk 8 (sk 123 5 510335 (bk 5 (sk 123 4 14719 (lk 123 4 m4 2431 (bk 4 (sk 123 0 511 (lv 123 0)))))))) ⟨[(3,t3),(6,t6),(7,t7),(8,t8),(9,t9),(14,t14),(15,t15)],h⟩
def PX (t15:V) (k:V→Rv):Rv:=
 (AO .lss t15 (V.int .i64 64)).bind fun t152=>k t152
def PY (t14:V) (h:List V) (k:V→V→Rv):Rv:=
 (AX P 187 (V.weak t14) (V.int .i64 0)).bind fun t156=>(AY h 93 t156).bind fun t157=>(AX P 187 (V.weak t14) (V.int .i64 4)).bind fun t159=>(AY h 93 t159).bind fun t160=>k t157 t160
def PZ (t14 t17:V) (h:List V) (k:V→Rv):Rv:=
 (AX P 187 (V.weak t14) (V.int .i64 5)).bind fun t163=>(AY h 93 t163).bind fun t164=>(AO .and t17 t164).bind fun t165=>(AO .sub (V.int .u64 4294967295) t17).bind fun t167=>(AX P 187 (V.weak t14) (V.int .i64 6)).bind fun t169=>(AY h 93 t169).bind fun t170=>(AO .and t167 t170).bind fun t171=>(AO .xor t165 t171).bind fun t172=>k t172
def Pe (t14 t16:V) (h:List V) (k:V→Rv):Rv:=
 (AX P 187 (V.weak t14) (V.int .i64 1)).bind fun t175=>(AY h 93 t175).bind fun t176=>(AO .and t16 t176).bind fun t177=>(AX P 187 (V.weak t14) (V.int .i64 2)).bind fun t180=>(AY h 93 t180).bind fun t181=>(AO .and t16 t181).bind fun t182=>(AO .xor t177 t182).bind fun t183=>(AX P 187 (V.weak t14) (V.int .i64 1)).bind fun t185=>(AY h 93 t185).bind fun t186=>(AX P 187 (V.weak t14) (V.int .i64 2)).bind fun t188=>(AY h 93 t188).bind fun t189=>(AO .and t186 t189).bind fun t190=>(AO .xor t183 t190).bind fun t191=>k t191
def Pg (t6 t9 t14 t15 t17 t18:V) (h:List V) (k:V→Rv):Rv:=
 (AX P 187 (V.weak t14) (V.int .i64 7)).bind fun t193=>(AY h 93 t193).bind fun t194=>(Cl 140 (AA h [t17,(V.int .i64 6)]) []).bind fun r=>(Cl 140 (AA h [t17,(V.int .i64 11)]) []).bind fun a1=>(AO .xor r.1 a1.1).bind fun t199=>(Cl 140 (AA h [t17,(V.int .i64 25)]) []).bind fun a2=>(AO .xor t199 a2.1).bind fun t202=>(AO .add t194 t202).bind fun t203=>(AO .add t203 t18).bind fun t205=>(AX P 187 (V.weak t6) t15).bind fun t208=>(AY h 93 t208).bind fun t209=>(AO .add t205 t209).bind fun t210=>(AX P 187 (V.weak t9) t15).bind fun t213=>(AY h 93 t213).bind fun t214=>(AO .add t210 t214).bind fun t215=>k t215
def Ph (t16 t19:V) (h:List V) (k:V→Rv):Rv:=
 (Cl 140 (AA h [t16,(V.int .i64 2)]) []).bind fun r=>(Cl 140 (AA h [t16,(V.int .i64 13)]) []).bind fun a1=>(AO .xor r.1 a1.1).bind fun t220=>(Cl 140 (AA h [t16,(V.int .i64 22)]) []).bind fun a2=>(AO .xor t220 a2.1).bind fun t223=>(AO .add t223 t19).bind fun t225=>k t225
def Pj (t14 t16 t17 t20 t21:V) (h:List V) (k:V→Rv):Rv:=
 (AO .add t20 t21).bind fun t228=>(Cl 139 (AA h [t228]) []).bind fun r=>(AX P 187 (V.weak t14) (V.int .i64 1)).bind fun t232=>(AY h 93 t232).bind fun t233=>(AX P 187 (V.weak t14) (V.int .i64 2)).bind fun t235=>(AY h 93 t235).bind fun t236=>(AX P 187 (V.weak t14) (V.int .i64 3)).bind fun t238=>(AY h 93 t238).bind fun t239=>(AO .add t239 t20).bind fun t241=>(Cl 139 (AA h [t241]) []).bind fun a1=>(AX P 187 (V.weak t14) (V.int .i64 5)).bind fun t245=>(AY h 93 t245).bind fun t246=>(AX P 187 (V.weak t14) (V.int .i64 6)).bind fun t248=>(AY h 93 t248).bind fun t249=>(Bv P 187 8 [(0,r.1),(1,t16),(2,t233),(3,t236),(4,a1.1),(5,t17),(6,t246),(7,t249)]).bind fun t250=>k t250
def XO (t15:V) (k:V→Rv):Rv:=
 (AO .add t15 (V.int .i64 1)).bind fun t154=>k t154
def XP (k:V→Rv):Rv:=
 k (V.int .i64 0)
def KZ (t3 t6 t7 t8 t14 t22:V) (m4:Nat) (h:List V):Rv:=lp W 123 10 (cd 123 2607487) (bk 10 (bk 5 (sk 123 4 14719 (lk 123 4 m4 2431 (bk 4 (sk 123 0 511 (lv 123 0))))))) ⟨[(3,t3),(6,t6),(7,t7),(8,t8),(14,t14),(22,t22)],h⟩
def Pm (t22:V) (k:V→Rv):Rv:=
 (AO .lss t22 (V.int .i64 8)).bind fun t252=>k t252
def XQ (t7 t14 t22:V) (h:List V) (k:List V→Rv):Rv:=
 (AX P 187 (V.weak t7) t22).bind fun t259=>(AY h 93 t259).bind fun t260=>(AX P 187 (V.weak t14) t22).bind fun t263=>(AY h 93 t263).bind fun t264=>(AO .add t260 t264).bind fun t265=>(Cl 139 (AA h [t265]) []).bind fun r=>(AX P 187 (V.weak t7) t22).bind fun t267=>(D8 P h 93 t267 r.1).bind fun a1=>k a1
def XR (t22:V) (k:V→Rv):Rv:=
 (AO .add t22 (V.int .i64 1)).bind fun t254=>k t254
def XT (t8:V) (k:V→Rv):Rv:=
 (AO .add t8 (V.int .i64 64)).bind fun t61=>k t61
theorem NF (t3 t6 t7 t8 t14 t22:V) (m4:Nat) (h:List V):KZ t3 t6 t7 t8 t14 t22 m4 h=
 Pm t22 fun a37=>
  V.ite a37
  (XQ t7 t14 t22 h fun a38=>
  XR t22 fun a39=>
  KZ t3 t6 t7 t8 t14 a39 m4 a38)
  (XT t8 fun a40=>
  Eh t3 t6 t7 a40 h):=
 Bz (by kernel_rfl)
theorem Pn (t3 t6 t7 t8 t9 t14 t15:V) (m4:Nat) (h:List V):OD t3 t6 t7 t8 t9 t14 t15 m4 h=
 PX t15 fun a27=>
  V.ite a27
  (PY t14 h fun a28 a29=>
  PZ t14 a29 h fun a30=>
  Pe t14 a28 h fun a31=>
  Pg t6 t9 t14 t15 a29 a30 h fun a32=>
  Ph a28 a31 h fun a33=>
  Pj t14 a28 a29 a32 a33 h fun a34=>
  XO t15 fun a35=>
  OD t3 t6 t7 t8 t9 a34 a35 m4 h)
  (XP fun a36=>
  KZ t3 t6 t7 t8 t14 a36 m4 h):=
 Bz (by kernel_rfl)
theorem Jz (t3 t6 t7 t8 t9 t10:V) (m4:Nat) (h:List V):I9 t3 t6 t7 t8 t9 t10 m4 h=
 KX t10 fun a16=>
  V.ite a16
  (PO t10 fun a17=>
  V.ite a17
  (XL t3 t8 t10 fun a18=>
  PS t9 a18 h fun a19=>
  KY t10 fun a20=>
  I9 t3 t6 t7 t8 a19 a20 m4 h)
  (PU t9 t10 h fun a21 a22=>
  PV t9 t10 a21 a22 h fun a23=>
  KY t10 fun a24=>
  I9 t3 t6 t7 t8 a23 a24 m4 h))
  (PW t7 h fun a25=>
  XM fun a26=>
  OD t3 t6 t7 t8 t9 a25 a26 m4 h):=
 Bz (by kernel_rfl)
def XU (k:V→Rv):Rv:=
 (Bv P 68 0 []).bind fun t268=>k t268
def XV (k:V→Rv):Rv:=
 k (V.int .i64 0)
def Ko (t7 t23 t24:V) (h:List V):Rv:=lp W 123 12 (cd 123 9727) (bk 12 (sk 123 0 2047 (lv 123 0))) ⟨[(7,t7),(23,t23),(24,t24)],h⟩
def Po (t24:V) (k:V→Rv):Rv:=
 (AO .lss t24 (V.int .i64 8)).bind fun t270=>k t270
def Pq (t7 t23 t24:V) (h:List V) (k:V→Rv):Rv:=
 (AX P 187 (V.weak t7) t24).bind fun t276=>(AY h 93 t276).bind fun t277=>(AO .quo t277 (V.int .u64 16777216)).bind fun t278=>(conv P h 93 5 t278).bind fun t279=>(AX P 187 (V.weak t7) t24).bind fun t282=>(AY h 93 t282).bind fun t283=>(AO .quo t283 (V.int .u64 65536)).bind fun t284=>(AO .rem t284 (V.int .u64 256)).bind fun t285=>(conv P h 93 5 t285).bind fun t286=>(AX P 187 (V.weak t7) t24).bind fun t289=>(AY h 93 t289).bind fun t290=>(AO .quo t290 (V.int .u64 256)).bind fun t291=>(AO .rem t291 (V.int .u64 256)).bind fun t292=>(conv P h 93 5 t292).bind fun t293=>(AX P 187 (V.weak t7) t24).bind fun t296=>(AY h 93 t296).bind fun t297=>(AO .rem t297 (V.int .u64 256)).bind fun t298=>(conv P h 93 5 t298).bind fun t299=>(Bv P 68 4 [(0,t279),(1,t286),(2,t293),(3,t299)]).bind fun t300=>(DW P 68 h t23 t300).bind fun t301=>k t301
def XW (t24:V) (k:V→Rv):Rv:=
 (AO .add t24 (V.int .i64 1)).bind fun t272=>k t272
def XY (t23:V) (h:List V) (k:V→Rv):Rv:=
 (conv P h 68 9 t23).bind fun t303=>k t303
theorem NG (t7 t23 t24:V) (h:List V):Ko t7 t23 t24 h=
 Po t24 fun a43=>
  V.ite a43
  (Pq t7 t23 t24 h fun a44=>
  XW t24 fun a45=>
  Ko t7 a44 a45 h)
  (XY t23 h fun a46=>
  AQ 0 h a46):=
 Bz (by kernel_rfl)
theorem Pv (t3 t6 t7 t8:V) (h:List V):Eh t3 t6 t7 t8 h=
 PN t3 t8 fun a13=>
  V.ite a13
  (XJ fun a14=>
  XK fun a15=>
  I9 t3 t6 t7 t8 a14 a15 (List.length h) h)
  (XU fun a41=>
  XV fun a42=>
  Ko t7 a41 a42 h):=
 Bz (by kernel_rfl)
theorem Px (t3 t4 t5:V) (h:List V):OC t3 t4 t5 h=
 VY t5 fun a6=>
  V.ite a6
  (ABy t3 t4 t5 h fun a7=>
  ABz t5 fun a8=>
  OC a7 t4 a8 h)
  (AB0 h fun a9=>
  XH h fun a10 a11=>
  XI fun a12=>
  Eh t3 a9 a10 a12 a11):=
 Bz (by kernel_rfl)
theorem Py (t0 t3:V) (h:List V):OB t0 t3 h=
 VX t3 fun a2=>
  V.ite a2
  (ABv t3 h fun a3=>
  OB t0 a3 h)
  (ABw t0 h fun a4=>
  ABx fun a5=>
  OC t3 a4 a5 h):=
 Bz (by kernel_rfl)
theorem AJM (t0:V):Cl 123 [t0] []=
 ABt (ABu t0 [] fun a1=>
  OB t0 a1 []):=
 Ai (by kernel_rfl)
def AB1 (k:Rv):Rv:=
 k
def AB2 (t0:V) (k:V→Rv):Rv:=
 (AO .add (V.str [0]) t0).bind fun t4=>(Cl 123 (AA [] [t4]) []).bind fun r=>k r.1
theorem AJN (t0:V):Cl 124 [t0] []=
 AB1 (AB2 t0 fun a1=>
  AQ 0 [] a1):=
 Ai (by kernel_rfl)
def OE (t0 t3:V):Rv:=lp W 125 0 (cd 125 35) (bk 0 (sk 125 0 15 (lv 125 0))) ⟨[(0,t0),(3,t3)],[]⟩
theorem Ze (t0 t3:V):OE t0 t3=
 (AO .mul (V.int .i64 2) t3).bind fun a1=>(AO .lss a1 t0).bind fun a2=>V.ite a2
  ((AO .mul (V.int .i64 2) t3).bind fun a3=>OE t0 a3)
  (AQ 0 [] t3):=
 Bz (by kernel_rfl)
theorem AJO (t0:V):Cl 125 [t0] []=
 OE t0 (V.int .i64 1):=
 Ai (by kernel_rfl)
theorem AJP (t0 t1:V):Cl 126 [t0,t1] []=
 (AO .add (V.str [1]) t0).bind fun a1=>(AO .add a1 t1).bind fun a2=>(Cl 123 (AA [] [a2]) []).bind fun a3=>AQ 0 [] a3.1:=
 Ai (by kernel_rfl)
def AB3 (k:Rv):Rv:=
 k
def AB4 (t0:V) (k:V→Rv):Rv:=
 (Lr t0 (V.int .u64 64)).bind fun t4=>(conv P [] 93 3 t4).bind fun t5=>k t5
theorem AJQ (t0:V):Cl 130 [t0] []=
 AB3 (AB4 t0 fun a1=>
  AQ 0 [] a1):=
 Ai (by kernel_rfl)
def AB5 (k:Rv):Rv:=
 k
def AB6 (t0:V) (h:List V) (k:V→List V→Rv):Rv:=
 (Cl 55 (AU [t0]) h).bind fun r=>k r.1 r.2
def AB7 (t3:V) (h:List V) (k:V→Rv):Rv:=
 (AO .shr t3 (V.int .u64 1)).bind fun t7=>(conv P h 93 2 t7).bind fun t8=>(AO .and t3 (V.int .u64 1)).bind fun t10=>(conv P h 93 2 t10).bind fun t11=>(un .neg t11).bind fun t12=>(AO .xor t8 t12).bind fun t13=>k t13
theorem AJR (t0:V) (h:List V):Cl 131 [t0] h=
 AB5 (AB6 t0 h fun a1 a2=>
  AB7 a1 a2 fun a3=>
  AQ (List.length h) a2 a3):=
 Ai (by kernel_rfl)
def AB8 (k:Rv):Rv:=
 k
def AB9 (t0:V) (k:V→Rv):Rv:=
 (lenV P 182 (V.weak t0)).bind fun t13=>(AO .eql t13 (V.int .i64 0)).bind fun t14=>k t14
def AJS (h:List V) (k:V→List V→Rv):Rv:=
 (Bv P 68 0 []).bind fun v=>(DV h v).bind fun r=>k r.1 r.2
def ACA (t0:V) (k:V→Rv):Rv:=
 (lenV P 182 (V.weak t0)).bind fun t17=>(AO .eql t17 (V.int .i64 1)).bind fun t18=>k t18
def ACB (t0:V) (h:List V) (k:V→List V→Rv):Rv:=
 (AX P 182 t0 (V.int .i64 0)).bind fun t20=>(BL h 68 t20).bind fun t21=>(DW P 68 h (V.lst 5 .nil []) t21).bind fun v=>(DV h v).bind fun r=>k r.1 r.2
def ACC (k:V→Rv):Rv:=
 k (V.int .i64 0)
def ACD (t1:V) (k:V→Rv):Rv:=
 (lenV P 68 (V.weak t1)).bind fun t24=>(AO .gtr t24 (V.int .i64 0)).bind fun t25=>k t25
def XZ (t0:V) (k:V→V→V→Rv):Rv:=
 (lenV P 182 (V.weak t0)).bind fun t43=>k (V.weak t0) t43 (V.int .i64 0)
def OG (t0 t1 t5 t42 t43 t44:V) (h:List V):Rv:=lp W 135 0 (cd 135 607) (bk 0 (sk 135 0 127 (lv 135 0))) ⟨[(0,t0),(1,t1),(5,t5),(42,t42),(43,t43),(44,t44)],h⟩
def Pz (t43 t44:V) (k:V→Rv):Rv:=
 (AO .lss t44 t43).bind fun t45=>k t45
def Xa (t42 t44:V) (h:List V) (k:V→Rv):Rv:=
 (AX P 182 t42 t44).bind fun t46=>(BL h 68 t46).bind fun t47=>k t47
def Xb (t5 t7:V) (k:V→Rv):Rv:=
 (lenV P 68 (V.weak t7)).bind fun t49=>(AO .sub (V.int .i64 9223372036854775807) t5).bind fun t51=>(AO .gtr t49 t51).bind fun t52=>k t52
def Xc (t5 t7:V) (k:V→Rv):Rv:=
 (lenV P 68 t7).bind fun t56=>(AO .add t5 t56).bind fun t57=>k t57
def Xd (t44:V) (k:V→Rv):Rv:=
 (AO .add t44 (V.int .i64 1)).bind fun t58=>k t58
def Xe (t5:V) (h:List V) (k:V→List V→Rv):Rv:=
 mnz P 0 155 [t5] h fun t60 a1=>(JY P 68 t60 none (some t5) (some t5)).bind fun t63=>k t63 a1
def Xf (t0 t8:V) (h:List V) (k:V→List V→Rv):Rv:=
 (AX P 182 (V.weak t0) (V.int .i64 0)).bind fun t66=>(BL h 68 t66).bind fun t67=>(cpy P 68 h (V.weak t8) t67).bind fun r=>k r.1 r.2
def Xg (t0:V) (k:V→V→V→Rv):Rv:=
 (JY P 182 t0 (some (V.int .i64 1)) none none).bind fun t70=>(lenV P 182 t70).bind fun t71=>k t70 t71 (V.int .i64 0)
def OH (t1 t8 t9 t70 t71 t72:V) (h:List V):Rv:=lp W 135 2 (cd 135 4863) (bk 2 (sk 135 0 1023 (lv 135 0))) ⟨[(1,t1),(8,t8),(9,t9),(70,t70),(71,t71),(72,t72)],h⟩
def P5 (t71 t72:V) (k:V→Rv):Rv:=
 (AO .lss t72 t71).bind fun t73=>k t73
def Xh (t70 t72:V) (h:List V) (k:V→Rv):Rv:=
 (AX P 182 t70 t72).bind fun t74=>(BL h 68 t74).bind fun t75=>k t75
def Xi (t1 t8 t9:V) (h:List V) (k:V→List V→Rv):Rv:=
 (JY P 68 (V.weak t8) (some t9) none none).bind fun t79=>(cpy P 68 h t79 (V.weak t1)).bind fun r=>(AO .add t9 r.1).bind fun t82=>k t82 r.2
def Xj (t8 t9 t11:V) (h:List V) (k:V→List V→Rv):Rv:=
 (JY P 68 (V.weak t8) (some t9) none none).bind fun t86=>(cpy P 68 h t86 t11).bind fun r=>(AO .add t9 r.1).bind fun t89=>k t89 r.2
def Xk (t72:V) (k:V→Rv):Rv:=
 (AO .add t72 (V.int .i64 1)).bind fun t90=>k t90
def Xl (t8:V) (k:V→Rv):Rv:=
 k t8
theorem P6 (t1 t8 t9 t70 t71 t72:V) (h:List V):OH t1 t8 t9 t70 t71 t72 h=
 P5 t71 t72 fun a25=>
  V.ite a25
  (Xh t70 t72 h fun a26=>
  Xi t1 t8 t9 h fun a27 a28=>
  Xj t8 a27 a26 a28 fun a29 a30=>
  Xk t72 fun a31=>
  OH t1 t8 a29 t70 t71 a31 a30)
  (Xl t8 fun a32=>
  Nr 0 h a32):=
 Bz (by kernel_rfl)
theorem P7 (t0 t1 t5 t42 t43 t44:V) (h:List V):OG t0 t1 t5 t42 t43 t44 h=
 Pz t43 t44 fun a13=>
  V.ite a13
  (Xa t42 t44 h fun a14=>
  Xb t5 a14 fun a15=>
  V.ite a15
  (none)
  (Xc t5 a14 fun a16=>
  Xd t44 fun a17=>
  OG t0 t1 a16 t42 t43 a17 h))
  (Xe t5 h fun a18 a19=>
  Xf t0 a18 a19 fun a20 a21=>
  Xg t0 fun a22 a23 a24=>
  OH t1 a18 a20 a22 a23 a24 a21):=
 Bz (by kernel_rfl)
def AJT (t0 t1:V) (k:V→Rv):Rv:=
 (lenV P 68 (V.weak t1)).bind fun t27=>(lenV P 182 (V.weak t0)).bind fun t29=>(AO .sub t29 (V.int .i64 1)).bind fun t30=>(AO .quo (V.int .i64 9223372036854775807) t30).bind fun t31=>(AO .geq t27 t31).bind fun t32=>k t32
def AJU (t0 t1 t5:V) (k:V→Rv):Rv:=
 (lenV P 68 (V.weak t1)).bind fun t36=>(lenV P 182 (V.weak t0)).bind fun t38=>(AO .sub t38 (V.int .i64 1)).bind fun t39=>(AO .mul t36 t39).bind fun t40=>(AO .add t5 t40).bind fun t41=>k t41
theorem AJV (t0 t1:V):Cl 135 [t0,t1] []=
 AB8 (AB9 t0 fun a1=>
  V.ite a1
  (AJS [] fun a2 a3=>
  Nr 0 a3 a2)
  (ACA t0 fun a4=>
  V.ite a4
  (ACB t0 [] fun a5 a6=>
  Nr 0 a6 a5)
  (ACC fun a7=>
  ACD t1 fun a8=>
  jn (fun a9=>XZ t0 fun a10 a11 a12=>
  OG t0 t1 a9 a10 a11 a12 [])
  (fun(j0:V→Rv)=>V.ite a8
  (AJT t0 t1 fun a33=>
  V.ite a33
  (none)
  (AJU t0 t1 a7 fun a34=>
  j0 a34))
  (j0 a7))))):=
 Ai (KU<|Wq (fun K=>K ⟨[(0,t0),(1,t1)],[]⟩) (Jw<|KU<|KU<|Wq (fun K u14=>K ⟨[(0,t0),(1,t1),(14,u14)],[]⟩) (funext fun a1=>Jw<|ZN (by kernel_rfl) (AE3<|Jw<|KU<|KU<|Wq (fun K u18=>K ⟨[(0,t0),(1,t1),(18,u18)],[]⟩) (funext fun a4=>Jw<|ZN (by kernel_rfl) (AE3<|Jw<|KU<|Wq (fun K u5=>K ⟨[(0,t0),(1,t1),(5,u5)],[]⟩) (funext fun a7=>Jw<|KU<|KU<|Wq (fun K u25=>K ⟨[(0,t0),(1,t1),(5,a7),(25,u25)],[]⟩) (funext fun a8=>Jw<|ASS (fun K a9=>K ⟨[(0,t0),(1,t1),(5,a9)],[]⟩) (funext fun a9=>by kernel_rfl) (ZN (by kernel_rfl) (by kernel_rfl))))))))))
def ACE (t0:V) (h:List V) (k:V→V→List V→Rv):Rv:=
 if(BJ P 184 t0&&V.under (List.length h) t0)=true then k (V.ref (List.length h) [] 184) (V.ref (List.length (h++[t0])) [] 184) ((h++[t0])++[zero P 184])else none
def ACF (h:List V) (k:V→List V→Rv):Rv:=
 k (V.ref (List.length h) [] 204) (h++[zero P 204])
def ACG (k:V→Rv):Rv:=
 k (V.int .i64 0)
def OI (t1 t2 t4 t5 t23:V) (h:List V):Rv:=lp W 136 0 (cd 136 75) (bk 0 (sk 136 0 15 (lv 136 0))) ⟨[(1,t1),(2,t2),(4,t4),(5,t5),(23,t23)],h⟩
def VZ (t23:V) (k:V→Rv):Rv:=
 (AO .lss t23 (V.int .i64 16)).bind fun t24=>k t24
def ACH (t23:V) (k:V→Rv):Rv:=
 k t23
def ACI (t1 t6:V) (k:V→Rv):Rv:=
 (AO .mul (V.int .i64 4) t6).bind fun t28=>(AO .mul (V.int .i64 4) t6).bind fun t30=>(AO .add t30 (V.int .i64 4)).bind fun t31=>(JY P 68 (V.weak t1) (some t28) (some t31) none).bind fun t32=>k t32
def Va (t5 t6 t7:V) (h:List V) (k:List V→Rv):Rv:=
 (AX P 68 (V.weak t7) (V.int .i64 0)).bind fun t35=>(AY h 5 t35).bind fun t36=>(conv P h 5 149 t36).bind fun t37=>(AO .shl t37 (V.int .u64 24)).bind fun t38=>(AX P 68 (V.weak t7) (V.int .i64 1)).bind fun t40=>(AY h 5 t40).bind fun t41=>(conv P h 5 149 t41).bind fun t42=>(AO .shl t42 (V.int .u64 16)).bind fun t43=>(AO .or t38 t43).bind fun t44=>(AX P 68 (V.weak t7) (V.int .i64 2)).bind fun t46=>(AY h 5 t46).bind fun t47=>(conv P h 5 149 t47).bind fun t48=>(AO .shl t48 (V.int .u64 8)).bind fun t49=>(AO .or t44 t49).bind fun t50=>(AX P 68 (V.weak t7) (V.int .i64 3)).bind fun t52=>(AY h 5 t52).bind fun t53=>(conv P h 5 149 t53).bind fun t54=>(AO .or t50 t54).bind fun t55=>(AX P 204 t5 t6).bind fun t56=>(D8 P h 149 t56 t55).bind fun a1=>k a1
def ACJ (t23:V) (k:V→Rv):Rv:=
 (AO .add t23 (V.int .i64 1)).bind fun t57=>k t57
def ACK (k:V→Rv):Rv:=
 k (V.int .i64 16)
def OJ (t2 t4 t5 t8:V) (h:List V):Rv:=lp W 136 2 (cd 136 151) (bk 2 (sk 136 0 31 (lv 136 0))) ⟨[(2,t2),(4,t4),(5,t5),(8,t8)],h⟩
def Vb (t8:V) (k:V→Rv):Rv:=
 (AO .lss t8 (V.int .i64 64)).bind fun t59=>k t59
def P8 (t5 t8:V) (h:List V) (k:V→Rv):Rv:=
 (AO .sub t8 (V.int .i64 15)).bind fun t63=>(AX P 204 t5 t63).bind fun t64=>(AY h 149 t64).bind fun t65=>(Cl 156 (AA h [t65,(V.int .i64 7)]) []).bind fun r=>(AO .sub t8 (V.int .i64 15)).bind fun t68=>(AX P 204 t5 t68).bind fun t69=>(AY h 149 t69).bind fun t70=>(Cl 156 (AA h [t70,(V.int .i64 18)]) []).bind fun a1=>(AO .xor r.1 a1.1).bind fun t72=>(AO .sub t8 (V.int .i64 15)).bind fun t74=>(AX P 204 t5 t74).bind fun t75=>(AY h 149 t75).bind fun t76=>(AO .shr t76 (V.int .u64 3)).bind fun t77=>(AO .xor t72 t77).bind fun t78=>k t78
def P9 (t5 t8:V) (h:List V) (k:V→Rv):Rv:=
 (AO .sub t8 (V.int .i64 2)).bind fun t80=>(AX P 204 t5 t80).bind fun t81=>(AY h 149 t81).bind fun t82=>(Cl 156 (AA h [t82,(V.int .i64 17)]) []).bind fun r=>(AO .sub t8 (V.int .i64 2)).bind fun t85=>(AX P 204 t5 t85).bind fun t86=>(AY h 149 t86).bind fun t87=>(Cl 156 (AA h [t87,(V.int .i64 19)]) []).bind fun a1=>(AO .xor r.1 a1.1).bind fun t89=>(AO .sub t8 (V.int .i64 2)).bind fun t91=>(AX P 204 t5 t91).bind fun t92=>(AY h 149 t92).bind fun t93=>(AO .shr t93 (V.int .u64 10)).bind fun t94=>(AO .xor t89 t94).bind fun t95=>k t95
def QA (t5 t8 t9 t10:V) (h:List V) (k:List V→Rv):Rv:=
 (AO .sub t8 (V.int .i64 16)).bind fun t98=>(AX P 204 t5 t98).bind fun t99=>(AY h 149 t99).bind fun t100=>(AO .sub t8 (V.int .i64 7)).bind fun t102=>(AX P 204 t5 t102).bind fun t103=>(AY h 149 t103).bind fun t104=>(AO .add t100 t104).bind fun t105=>(AO .add t105 t9).bind fun t107=>(AO .add t107 t10).bind fun t109=>(AX P 204 t5 t8).bind fun t110=>(D8 P h 149 t110 t109).bind fun a1=>k a1
def Xm (t8:V) (k:V→Rv):Rv:=
 (AO .add t8 (V.int .i64 1)).bind fun t61=>k t61
def Xn (t2:V) (h:List V) (k:V→List V→Rv):Rv:=
 (AY h 184 t2).bind fun t111=>(D8 P (h++[zero P 184]) 184 (V.ref (List.length h) [] 184) t111).bind fun a1=>k (V.ref (List.length h) [] 184) a1
def AGa (k:V→Rv):Rv:=
 k (V.int .i64 0)
def OL (t2 t4 t5 t11 t112:V) (h:List V):Rv:=lp W 136 4 (cd 136 607) (bk 4 (sk 136 0 127 (lv 136 0))) ⟨[(2,t2),(4,t4),(5,t5),(11,t11),(112,t112)],h⟩
def QB (t112:V) (k:V→Rv):Rv:=
 (AO .lss t112 (V.int .i64 64)).bind fun t113=>k t113
def Xo (t112:V) (k:V→Rv):Rv:=
 k t112
def QC (t11:V) (h:List V) (k:V→V→V→V→V→V→Rv):Rv:=
 (AX P 184 t11 (V.int .i64 0)).bind fun t115=>(AY h 149 t115).bind fun t116=>(AX P 184 t11 (V.int .i64 1)).bind fun t117=>(AY h 149 t117).bind fun t118=>(AX P 184 t11 (V.int .i64 2)).bind fun t119=>(AY h 149 t119).bind fun t120=>(AX P 184 t11 (V.int .i64 4)).bind fun t121=>(AY h 149 t121).bind fun t122=>(AX P 184 t11 (V.int .i64 5)).bind fun t123=>(AY h 149 t123).bind fun t124=>(AX P 184 t11 (V.int .i64 6)).bind fun t125=>(AY h 149 t125).bind fun t126=>k t116 t118 t120 t122 t124 t126
def QD (t5 t11 t12 t16 t17 t18:V) (h:List V) (k:V→Rv):Rv:=
 (AX P 184 t11 (V.int .i64 7)).bind fun t127=>(AY h 149 t127).bind fun t128=>(Cl 156 (AA h [t16,(V.int .i64 6)]) []).bind fun r=>(Cl 156 (AA h [t16,(V.int .i64 11)]) []).bind fun a1=>(AO .xor r.1 a1.1).bind fun t133=>(Cl 156 (AA h [t16,(V.int .i64 25)]) []).bind fun a2=>(AO .xor t133 a2.1).bind fun t136=>(AO .add t128 t136).bind fun t137=>(AO .xor t17 t18).bind fun t142=>(AO .and t16 t142).bind fun t143=>(AO .xor t18 t143).bind fun t144=>(AO .add t137 t144).bind fun t145=>(AX P 204 (V.rop 204 Ov) t12).bind fun t147=>(AY h 149 t147).bind fun t148=>(AO .add t145 t148).bind fun t149=>(AX P 204 t5 t12).bind fun t151=>(AY h 149 t151).bind fun t152=>(AO .add t149 t152).bind fun t153=>k t153
def QE (t13 t14 t15:V) (h:List V) (k:V→Rv):Rv:=
 (Cl 156 (AA h [t13,(V.int .i64 2)]) []).bind fun r=>(Cl 156 (AA h [t13,(V.int .i64 13)]) []).bind fun a1=>(AO .xor r.1 a1.1).bind fun t158=>(Cl 156 (AA h [t13,(V.int .i64 22)]) []).bind fun a2=>(AO .xor t158 a2.1).bind fun t161=>(AO .and t13 t14).bind fun t164=>(AO .or t13 t14).bind fun t168=>(AO .and t15 t168).bind fun t169=>(AO .or t164 t169).bind fun t170=>(AO .add t161 t170).bind fun t171=>k t171
def QF (t11 t13 t14 t15 t16 t17 t18 t19 t20:V) (h:List V) (k:List V→Rv):Rv:=
 (AO .add t19 t20).bind fun t174=>(AX P 184 t11 (V.int .i64 3)).bind fun t178=>(AY h 149 t178).bind fun t179=>(AO .add t179 t19).bind fun t181=>(WU P 184 [(0,t174),(1,t13),(2,t14),(3,t15),(4,t181),(5,t16),(6,t17),(7,t18)]).bind fun t185=>(D8 P h 184 t11 t185).bind fun a1=>k a1
def Xp (t112:V) (k:V→Rv):Rv:=
 (AO .add t112 (V.int .i64 1)).bind fun t186=>k t186
def Xq (t11:V) (h:List V) (k:V→V→Rv):Rv:=
 (AY h 184 t11).bind fun t187=>k t187 (V.int .i64 0)
def OM (t2 t4 t187 t188:V) (h:List V):Rv:=lp W 136 6 (cd 136 1215) (bk 6 (sk 136 0 255 (lv 136 0))) ⟨[(2,t2),(4,t4),(187,t187),(188,t188)],h⟩
def QG (t188:V) (k:V→Rv):Rv:=
 (AO .lss t188 (V.int .i64 8)).bind fun t189=>k t189
def Xr (t187 t188:V) (k:V→V→Rv):Rv:=
 (GX P 184 t187 t188).bind fun t191=>k t188 t191
def Xt (t2 t21 t22:V) (h:List V) (k:List V→Rv):Rv:=
 (AX P 184 t2 t21).bind fun t193=>(AY h 149 t193).bind fun t194=>(AO .add t194 t22).bind fun t196=>(AX P 184 t2 t21).bind fun t197=>(D8 P h 149 t197 t196).bind fun a1=>k a1
def Xu (t188:V) (k:V→Rv):Rv:=
 (AO .add t188 (V.int .i64 1)).bind fun t198=>k t198
def Xv (t2 t4:V) (h:List V) (k:List V→Rv):Rv:=
 (AY h 184 t2).bind fun t199=>(D8 P h 184 t4 t199).bind fun a1=>k a1
theorem QH (t2 t4 t187 t188:V) (h:List V):OM t2 t4 t187 t188 h=
 QG t188 fun a35=>
  V.ite a35
  (Xr t187 t188 fun a36 a37=>
  Xt t2 a36 a37 h fun a38=>
  Xu t188 fun a39=>
  OM t2 t4 t187 a39 a38)
  (Xv t2 t4 h fun a40=>
  (AY a40 184 t4).bind fun a41=>AQ 0 a40 a41):=
 Bz (by kernel_rfl)
theorem QI (t2 t4 t5 t11 t112:V) (h:List V):OL t2 t4 t5 t11 t112 h=
 QB t112 fun a21=>
  V.ite a21
  (Xo t112 fun a22=>
  QC t11 h fun a23 a24 a25 a26 a27 a28=>
  QD t5 t11 a22 a26 a27 a28 h fun a29=>
  QE a23 a24 a25 h fun a30=>
  QF t11 a23 a24 a25 a26 a27 a28 a29 a30 h fun a31=>
  Xp t112 fun a32=>
  OL t2 t4 t5 t11 a32 a31)
  (Xq t11 h fun a33 a34=>
  OM t2 t4 a33 a34 h):=
 Bz (by kernel_rfl)
theorem QJ (t2 t4 t5 t8:V) (h:List V):OJ t2 t4 t5 t8 h=
 Vb t8 fun a13=>
  V.ite a13
  (P8 t5 t8 h fun a14=>
  P9 t5 t8 h fun a15=>
  QA t5 t8 a14 a15 h fun a16=>
  Xm t8 fun a17=>
  OJ t2 t4 t5 a17 a16)
  (Xn t2 h fun a18 a19=>
  AGa fun a20=>
  OL t2 t4 t5 a18 a20 a19):=
 Bz (by kernel_rfl)
theorem QK (t1 t2 t4 t5 t23:V) (h:List V):OI t1 t2 t4 t5 t23 h=
 VZ t23 fun a7=>
  V.ite a7
  (ACH t23 fun a8=>
  ACI t1 a8 fun a9=>
  Va t5 a8 a9 h fun a10=>
  ACJ t23 fun a11=>
  OI t1 t2 t4 t5 a11 a10)
  (ACK fun a12=>
  OJ t2 t4 t5 a12 h):=
 Bz (by kernel_rfl)
theorem AJW (t0 t1:V):Cl 136 [t0,t1] []=
 ACE t0 [] fun a1 a2 a3=>
  ACF a3 fun a4 a5=>
  ACG fun a6=>
  OI t1 a1 a2 a4 a6 a5:=
 Ai (by kernel_rfl)
def ACM (k:Rv):Rv:=
 k
def ACN (k:V→Rv):Rv:=
 k (V.int .u64 1)
def ACO (k:V→Rv):Rv:=
 k (V.int .i64 0)
def OO (t0 t3 t4:V):Rv:=lp W 137 0 (cd 137 75) (bk 0 (sk 137 0 15 (lv 137 0))) ⟨[(0,t0),(3,t3),(4,t4)],[]⟩
def Ve (t0 t4:V) (k:V→Rv):Rv:=
 (AO .lss t4 t0).bind fun t7=>k t7
def ACP (t3:V) (k:V→Rv):Rv:=
 (AO .mul (V.int .u64 2) t3).bind fun t11=>k t11
def ACQ (t4:V) (k:V→Rv):Rv:=
 (AO .add t4 (V.int .i64 1)).bind fun t9=>k t9
def ACR (t3:V) (k:V→Rv):Rv:=
 k t3
theorem QL (t0 t3 t4:V):OO t0 t3 t4=
 Ve t0 t4 fun a3=>
  V.ite a3
  (ACP t3 fun a4=>
  ACQ t4 fun a5=>
  OO t0 a4 a5)
  (ACR t3 fun a6=>
  AQ 0 [] a6):=
 Bz (by kernel_rfl)
theorem AJX (t0:V):Cl 137 [t0] []=
 ACM (ACN fun a1=>
  ACO fun a2=>
  OO t0 a1 a2):=
 Ai (by kernel_rfl)
def ACS (k:Rv):Rv:=
 k
def AJY (k:V→Rv):Rv:=
 (Bv P 187 64 [(0,(V.int .u64 1116352408)),(1,(V.int .u64 1899447441)),(2,(V.int .u64 3049323471)),(3,(V.int .u64 3921009573)),(4,(V.int .u64 961987163)),(5,(V.int .u64 1508970993)),(6,(V.int .u64 2453635748)),(7,(V.int .u64 2870763221)),(8,(V.int .u64 3624381080)),(9,(V.int .u64 310598401)),(10,(V.int .u64 607225278)),(11,(V.int .u64 1426881987)),(12,(V.int .u64 1925078388)),(13,(V.int .u64 2162078206)),(14,(V.int .u64 2614888103)),(15,(V.int .u64 3248222580)),(16,(V.int .u64 3835390401)),(17,(V.int .u64 4022224774)),(18,(V.int .u64 264347078)),(19,(V.int .u64 604807628)),(20,(V.int .u64 770255983)),(21,(V.int .u64 1249150122)),(22,(V.int .u64 1555081692)),(23,(V.int .u64 1996064986)),(24,(V.int .u64 2554220882)),(25,(V.int .u64 2821834349)),(26,(V.int .u64 2952996808)),(27,(V.int .u64 3210313671)),(28,(V.int .u64 3336571891)),(29,(V.int .u64 3584528711)),(30,(V.int .u64 113926993)),(31,(V.int .u64 338241895)),(32,(V.int .u64 666307205)),(33,(V.int .u64 773529912)),(34,(V.int .u64 1294757372)),(35,(V.int .u64 1396182291)),(36,(V.int .u64 1695183700)),(37,(V.int .u64 1986661051)),(38,(V.int .u64 2177026350)),(39,(V.int .u64 2456956037)),(40,(V.int .u64 2730485921)),(41,(V.int .u64 2820302411)),(42,(V.int .u64 3259730800)),(43,(V.int .u64 3345764771)),(44,(V.int .u64 3516065817)),(45,(V.int .u64 3600352804)),(46,(V.int .u64 4094571909)),(47,(V.int .u64 275423344)),(48,(V.int .u64 430227734)),(49,(V.int .u64 506948616)),(50,(V.int .u64 659060556)),(51,(V.int .u64 883997877)),(52,(V.int .u64 958139571)),(53,(V.int .u64 1322822218)),(54,(V.int .u64 1537002063)),(55,(V.int .u64 1747873779)),(56,(V.int .u64 1955562222)),(57,(V.int .u64 2024104815)),(58,(V.int .u64 2227730452)),(59,(V.int .u64 2361852424)),(60,(V.int .u64 2428436474)),(61,(V.int .u64 2756734187)),(62,(V.int .u64 3204031479)),(63,(V.int .u64 3329325298))]).bind fun t1=>k t1
theorem AJZ:Cl 138 [] []=
 ACS (AJY fun a1=>
  AQ 0 [] a1):=
 Ai (by kernel_rfl)
def ACT (k:Rv):Rv:=
 k
def ACU (t0:V) (k:V→Rv):Rv:=
 (AO .rem t0 (V.int .u64 4294967296)).bind fun t4=>k t4
theorem AJa (t0:V):Cl 139 [t0] []=
 ACT (ACU t0 fun a1=>
  AQ 0 [] a1):=
 Ai (by kernel_rfl)
def ACV (k:Rv):Rv:=
 k
def ACW (t0 t1:V) (k:V→Rv):Rv:=
 (Cl 137 (AA [] [t1]) []).bind fun r=>(AO .quo t0 r.1).bind fun t8=>(Cl 137 (AA [] [t1]) []).bind fun a1=>(AO .rem t0 a1.1).bind fun t12=>(AO .sub (V.int .i64 32) t1).bind fun t14=>(Cl 137 (AA [] [t14]) []).bind fun a2=>(AO .mul t12 a2.1).bind fun t16=>(AO .add t8 t16).bind fun t17=>k t17
theorem AJb (t0 t1:V):Cl 140 [t0,t1] []=
 ACV (ACW t0 t1 fun a1=>
  AQ 0 [] a1):=
 Ai (by kernel_rfl)
def ACX (k:Rv):Rv:=
 k
def ACY (t0 t1:V) (k:V→Rv):Rv:=
 (un .neg t1).bind fun t7=>(Cl 172 (AA [] [t0,t7]) []).bind fun r=>k r.1
theorem AJc (t0 t1:V):Cl 156 [t0,t1] []=
 ACX (ACY t0 t1 fun a1=>
  AQ 0 [] a1):=
 Ai (by kernel_rfl)
def ACZ (k:Rv):Rv:=
 k
def ACa (t1:V) (k:V→Rv):Rv:=
 (conv P [] 3 126 t1).bind fun t7=>(AO .and t7 (V.int .u64 31)).bind fun t8=>k t8
def ACb (t0 t5:V) (k:V→Rv):Rv:=
 (AO .shl t0 t5).bind fun t11=>(AO .sub (V.int .u64 32) t5).bind fun t14=>(AO .shr t0 t14).bind fun t15=>(AO .or t11 t15).bind fun t16=>k t16
theorem AJd (t0 t1:V):Cl 172 [t0,t1] []=
 ACZ (ACa t1 fun a1=>
  ACb t0 a1 fun a2=>
  AQ 0 [] a2):=
 Ai (by kernel_rfl)
end
end Go.Proofs.YtiegkempfolgcaaGreatDoor
