/-
  Part of the proof of a statement about the given program: an abstract machine over its code, the simulation, its functions' equations, what they compute.
-/
import Derived.Test.YtiegkempfolgcaaGreatDoorMg4
set_option linter.unusedVariables false
set_option linter.unusedSimpArgs false
set_option linter.unusedSectionVars false
set_option maxRecDepth 100000
noncomputable section
namespace Go.Proofs.YtiegkempfolgcaaGreatDoor
section
open Go AM
def Vs (t3 t4 t5 t6 t7 t13 t15 t16:V) (h:List V):Rv:=lp W 5 0 (cd 5 9691) (bk 0 (sk 5 0 2011 (sk 5 0 15 (lv 5 0)))) ⟨[(3,t3),(4,t4),(5,t5),(6,t6),(7,t7),(13,t13),(15,t15),(16,t16)],h⟩
theorem OY (t3 t4 t5 t6 t7 t13 t15 t16:V) (h:List V):Vs t3 t4 t5 t6 t7 t13 t15 t16 h=
 (DK (V.weak t3)).bind fun a64=>(AO .lss t16 a64).bind fun a65=>V.ite a65
  ((Di 60 (V.weak t3) t16).bind fun a66=>(fA 60 31 3 a66).bind fun a67=>(BA h 31 a67).bind fun a68=>(DK a68).bind fun a69=>(AO .add t15 a69).bind fun a70=>jn (fun a71=>
 V.ite a71
  (AV 0 h (V.bool false))
  ((AO .add t16 (V.int .i64 1)).bind fun a72=>Vs t3 t4 t5 t6 t7 t13 a70 a72 h)) (fun(a73:V→Rv)=>(fA 33 29 2 t13).bind fun a74=>(BA h 29 a74).bind fun a75=>(Di 55 a75 t16).bind fun a76=>(Aa h 55 a76).bind fun a77=>(Di 60 (V.weak t3) t16).bind fun a78=>(fA 60 57 2 a78).bind fun a79=>(fA 57 55 2 a79).bind fun a80=>(Aa h 55 a80).bind fun a81=>(NU (BK 54) .neq a77 a81).bind fun a82=>V.ite a82 (a73 (V.bool true)) ((fA 33 30 3 t13).bind fun a83=>(BA h 30 a83).bind fun a84=>(Di 58 a84 t16).bind fun a85=>(BA h 58 a85).bind fun a86=>(Di 60 (V.weak t3) t16).bind fun a87=>(fA 60 58 4 a87).bind fun a88=>(BA h 58 a88).bind fun a89=>(Cl 25 (AL h [a86,a89]) []).bind fun a90=>(un .not a90.1).bind fun a91=>a73 a91)))
  (jn (fun a92=>
 V.ite a92
  (AV 0 h (V.bool false))
  ((BA h 33 t7).bind fun a93=>(Cl 18 (AL h [a93]) []).bind fun a94=>(Cl 20 (AL h [a94.1,t4]) []).bind fun a95=>(ext a95.1 0).bind fun a96=>(ext a95.1 1).bind fun a97=>(AO .neq a97 (V.int .i64 0)).bind fun a98=>V.ite a98
  (AV 0 h (V.bool true))
  ((BA h 24 t5).bind fun a99=>if Dq true [a99]=true then(Cl 11 (AL h [a99]) []).bind fun a100=>(Aa h 26 t6).bind fun a101=>(BA h 33 t7).bind fun a102=>if Dq true [a102]=true then(Cl 18 (AL h [a102]) []).bind fun a103=>if Dq true [a100.1,a101,a103.1,a96]=true then(Cl 23 (AL h [a100.1,a101,a103.1,a96]) []).bind fun a104=>(FQ a104.1 0).bind fun a105=>(ext a104.1 1).bind fun a106=>(Cc (BK 32) 33 (h++[(V.agg 32 [(V.int .i64 0),(V.lst 4 .nil []),(V.lst 55 .nil []),(V.lst 58 .nil []),(V.lst 108 .nil [])])]) (V.ref (List.length h) [] 33) a105).bind fun a107=>(BA a107 24 t5).bind fun a108=>if Dq true [a108]=true then(Cl 11 (AL a107 [a108]) []).bind fun a109=>(Aa a107 26 t6).bind fun a110=>(fA 33 28 1 t7).bind fun a111=>(BA a107 28 a111).bind fun a112=>(DK a112).bind fun a113=>if Dq true [a109.1,a110,a113]=true then(Cl 10 (AL a107 [a109.1,a110,a113]) []).bind fun a114=>(FQ a114.1 0).bind fun a115=>(ext a114.1 1).bind fun a116=>(Cc (BK 32) 33 (a107++[(V.agg 32 [(V.int .i64 0),(V.lst 4 .nil []),(V.lst 55 .nil []),(V.lst 58 .nil []),(V.lst 108 .nil [])])]) (V.ref (List.length a107) [] 33) a115).bind fun a117=>jn (fun a118=>
 V.ite a118
  (AV 0 a117 (V.bool false))
  ((fA 33 28 1 (V.ref (List.length h) [] 33)).bind fun a119=>(BA a117 28 a119).bind fun a120=>(fA 33 28 1 (V.ref (List.length a107) [] 33)).bind fun a121=>(Cc (JS 4) 28 a117 a121 a120).bind fun a122=>(BA a122 33 (V.ref (List.length h) [] 33)).bind fun a123=>(BA a122 33 (V.ref (List.length a107) [] 33)).bind fun a124=>(Cl 13 (AL a122 [a123,a124]) []).bind fun a125=>AV 0 a122 a125.1)) (fun(a126:V→Rv)=>(AO .neq a106 (V.int .i64 0)).bind fun a127=>V.ite a127 (a126 (V.bool true)) ((AO .neq a116 (V.int .i64 0)).bind fun a128=>V.ite a128 (a126 (V.bool true)) ((fA 33 28 1 (V.ref (List.length h) [] 33)).bind fun a129=>(BA a117 28 a129).bind fun a130=>(fA 33 28 1 t7).bind fun a131=>(BA a117 28 a131).bind fun a132=>(Cl 24 (AL a117 [a130,a132,t4]) []).bind fun a133=>(un .not a133.1).bind fun a134=>a126 a134)))else none else none else none else none else none))) (fun(a135:V→Rv)=>(fA 33 31 4 t13).bind fun a136=>(BA h 31 a136).bind fun a137=>(DK a137).bind fun a138=>(AO .neq a138 t15).bind fun a139=>V.ite a139 (a135 (V.bool true)) ((fA 33 31 4 t13).bind fun a140=>(BA h 31 a140).bind fun a141=>(Cl 26 (AL h [a141]) []).bind fun a142=>(un .not a142.1).bind fun a143=>a135 a143))):=
 CX (by kernel_rfl)
theorem Gm (t0 t1 t2 t3 t4:V):Cl 5 [t0,t1,t2,t3,t4] []=
 if((BK 23) (V.weak t0)&&V.under 0 (V.weak t0))=true then if((BK 25) t1&&V.under 1 t1)=true then if((BK 32) (V.weak t2)&&V.under 2 (V.weak t2))=true then jn (fun a1=>
 V.ite a1
  ((Cl 9 (AL [(V.weak t0),t1,(V.weak t2)] []) []).bind fun a2=>AV 0 [(V.weak t0),t1,(V.weak t2)] a2.1)
  ((BA [(V.weak t0),t1,(V.weak t2)] 33 (V.ref 2 [] 33)).bind fun a3=>(Cl 18 (AL [(V.weak t0),t1,(V.weak t2)] [a3]) []).bind fun a4=>(LX 60 true (ck [] [])).bind fun a5=>(G6 60 (BK 59) true [(V.weak t0),t1,(V.weak t2)] a5 (V.weak t3)).bind fun a6=>(Cl 17 (AL [(V.weak t0),t1,(V.weak t2)] [a4.1,a6]) []).bind fun a7=>(ext a7.1 0).bind fun a8=>(ext a7.1 1).bind fun a9=>jn (fun a10=>
 jn (fun a11=>(BA a11 33 (V.ref 2 [] 33)).bind fun a12=>(Cl 18 (AL a11 [a12]) []).bind fun a13=>(Cl 20 (AL a11 [a13.1,t4]) []).bind fun a14=>(ext a14.1 0).bind fun a15=>(ext a14.1 1).bind fun a16=>(AO .neq a16 (V.int .i64 0)).bind fun a17=>V.ite a17
  (AV 0 a11 (V.bool true))
  ((BA a11 24 (V.ref 0 [] 24)).bind fun a18=>if Dq true [a18]=true then(Cl 11 (AL a11 [a18]) []).bind fun a19=>(Aa a11 26 (V.ref 1 [] 26)).bind fun a20=>(BA a11 33 (V.ref 2 [] 33)).bind fun a21=>if Dq true [a21]=true then(Cl 18 (AL a11 [a21]) []).bind fun a22=>if Dq true [a19.1,a20,a22.1,a15]=true then(Cl 23 (AL a11 [a19.1,a20,a22.1,a15]) []).bind fun a23=>(FQ a23.1 0).bind fun a24=>(ext a23.1 1).bind fun a25=>(Cc (BK 32) 33 (a11++[(V.agg 32 [(V.int .i64 0),(V.lst 4 .nil []),(V.lst 55 .nil []),(V.lst 58 .nil []),(V.lst 108 .nil [])])]) (V.ref (List.length a11) [] 33) a24).bind fun a26=>(BA a26 24 (V.ref 0 [] 24)).bind fun a27=>if Dq true [a27]=true then(Cl 11 (AL a26 [a27]) []).bind fun a28=>(Aa a26 26 (V.ref 1 [] 26)).bind fun a29=>(fA 33 28 1 (V.ref 2 [] 33)).bind fun a30=>(BA a26 28 a30).bind fun a31=>(DK a31).bind fun a32=>if Dq true [a28.1,a29,a32]=true then(Cl 10 (AL a26 [a28.1,a29,a32]) []).bind fun a33=>(FQ a33.1 0).bind fun a34=>(ext a33.1 1).bind fun a35=>(Cc (BK 32) 33 (a26++[(V.agg 32 [(V.int .i64 0),(V.lst 4 .nil []),(V.lst 55 .nil []),(V.lst 58 .nil []),(V.lst 108 .nil [])])]) (V.ref (List.length a26) [] 33) a34).bind fun a36=>jn (fun a37=>
 V.ite a37
  (AV 0 a36 (V.bool false))
  ((fA 33 28 1 (V.ref (List.length a11) [] 33)).bind fun a38=>(BA a36 28 a38).bind fun a39=>(fA 33 28 1 (V.ref (List.length a26) [] 33)).bind fun a40=>(Cc (JS 4) 28 a36 a40 a39).bind fun a41=>(BA a41 33 (V.ref (List.length a11) [] 33)).bind fun a42=>(BA a41 33 (V.ref (List.length a26) [] 33)).bind fun a43=>(Cl 13 (AL a41 [a42,a43]) []).bind fun a44=>AV 0 a41 a44.1)) (fun(a45:V→Rv)=>(AO .neq a25 (V.int .i64 0)).bind fun a46=>V.ite a46 (a45 (V.bool true)) ((AO .neq a35 (V.int .i64 0)).bind fun a47=>V.ite a47 (a45 (V.bool true)) ((fA 33 28 1 (V.ref (List.length a11) [] 33)).bind fun a48=>(BA a36 28 a48).bind fun a49=>(fA 33 28 1 (V.ref 2 [] 33)).bind fun a50=>(BA a36 28 a50).bind fun a51=>(Cl 24 (AL a36 [a49,a51,t4]) []).bind fun a52=>(un .not a52.1).bind fun a53=>a45 a53)))else none else none else none else none else none))
  (fun(j0:List V→Rv)=>V.ite a10
  ((BA [(V.weak t0),t1,(V.weak t2)] 24 (V.ref 0 [] 24)).bind fun a54=>if Dq true [a54]=true then(Cl 11 (AL [(V.weak t0),t1,(V.weak t2)] [a54]) []).bind fun a55=>(Aa [(V.weak t0),t1,(V.weak t2)] 26 (V.ref 1 [] 26)).bind fun a56=>(BA [(V.weak t0),t1,(V.weak t2)] 33 (V.ref 2 [] 33)).bind fun a57=>if Dq true [a57]=true then(Cl 18 (AL [(V.weak t0),t1,(V.weak t2)] [a57]) []).bind fun a58=>if Dq true [a55.1,a56,a58.1,a8]=true then(Cl 23 (AL [(V.weak t0),t1,(V.weak t2)] [a55.1,a56,a58.1,a8]) []).bind fun a59=>(FQ a59.1 0).bind fun a60=>(ext a59.1 1).bind fun a61=>(Cc (BK 32) 33 [(V.weak t0),t1,(V.weak t2),(V.agg 32 [(V.int .i64 0),(V.lst 4 .nil []),(V.lst 55 .nil []),(V.lst 58 .nil []),(V.lst 108 .nil [])])] (V.ref 3 [] 33) a60).bind fun a62=>jn (fun a63=>
 V.ite a63
  (AV 0 a62 (V.bool false))
  (Vs t3 t4 (V.ref 0 [] 24) (V.ref 1 [] 26) (V.ref 2 [] 33) (V.ref 3 [] 33) (V.int .i64 0) (V.int .i64 0) a62)) (fun(a144:V→Rv)=>(AO .neq a61 (V.int .i64 0)).bind fun a145=>V.ite a145 (a144 (V.bool true)) ((fA 33 3 0 (V.ref 3 [] 33)).bind fun a146=>(Aa a62 3 a146).bind fun a147=>(fA 33 3 0 (V.ref 2 [] 33)).bind fun a148=>(Aa a62 3 a148).bind fun a149=>(AO .add a149 (V.int .i64 1)).bind fun a150=>(AO .neq a147 a150).bind fun a151=>V.ite a151 (a144 (V.bool true)) ((fA 33 29 2 (V.ref 3 [] 33)).bind fun a152=>(BA a62 29 a152).bind fun a153=>(DK a153).bind fun a154=>(fA 33 29 2 (V.ref 2 [] 33)).bind fun a155=>(BA a62 29 a155).bind fun a156=>(DK a156).bind fun a157=>(AO .neq a154 a157).bind fun a158=>V.ite a158 (a144 (V.bool true)) ((fA 33 30 3 (V.ref 3 [] 33)).bind fun a159=>(BA a62 30 a159).bind fun a160=>(DK a160).bind fun a161=>(DK (V.weak t3)).bind fun a162=>(AO .neq a161 a162).bind fun a163=>V.ite a163 (a144 (V.bool true)) ((fA 33 28 1 (V.ref 3 [] 33)).bind fun a164=>(BA a62 28 a164).bind fun a165=>(fA 33 28 1 (V.ref 2 [] 33)).bind fun a166=>(BA a62 28 a166).bind fun a167=>(Cl 24 (AL a62 [a165,a167,(V.int .i64 (-1))]) []).bind fun a168=>(un .not a168.1).bind fun a169=>a144 a169)))))else none else none else none)
  (j0 [(V.weak t0),t1,(V.weak t2)]))) (fun(a170:V→Rv)=>(AO .eql a9 (V.int .i64 0)).bind fun a171=>V.ite a171 ((fA 33 3 0 (V.ref 2 [] 33)).bind fun a172=>(Aa [(V.weak t0),t1,(V.weak t2)] 3 a172).bind fun a173=>(fA 26 3 2 (V.ref 1 [] 26)).bind fun a174=>(Aa [(V.weak t0),t1,(V.weak t2)] 3 a174).bind fun a175=>(AO .lss a173 a175).bind fun a176=>V.ite a176 ((Cl 22 (AL [(V.weak t0),t1,(V.weak t2)] [(V.weak t3)]) []).bind fun a177=>a170 a177.1) (a170 (V.bool false))) (a170 (V.bool false))))) (fun(a178:V→Rv)=>(Cl 9 (AL [(V.weak t0),t1,(V.weak t2)] []) []).bind fun a179=>(un .not a179.1).bind fun a180=>V.ite a180 (a178 (V.bool true)) ((fA 24 22 1 (V.ref 0 [] 24)).bind fun a181=>(BA [(V.weak t0),t1,(V.weak t2)] 22 a181).bind fun a182=>(DK a182).bind fun a183=>(AO .gtr a183 (V.int .i64 40)).bind fun a184=>V.ite a184 (a178 (V.bool true)) ((fA 24 3 0 (V.ref 0 [] 24)).bind fun a185=>(Aa [(V.weak t0),t1,(V.weak t2)] 3 a185).bind fun a186=>(AO .gtr a186 (V.int .i64 12)).bind fun a187=>V.ite a187 (a178 (V.bool true)) ((BA [(V.weak t0),t1,(V.weak t2)] 33 (V.ref 2 [] 33)).bind fun a188=>(Cl 15 (AL [(V.weak t0),t1,(V.weak t2)] [a188]) []).bind fun a189=>(un .not a189.1).bind fun a190=>V.ite a190 (a178 (V.bool true)) ((Cl 16 (AL [(V.weak t0),t1,(V.weak t2)] [(V.weak t3)]) []).bind fun a191=>(un .not a191.1).bind fun a192=>V.ite a192 (a178 (V.bool true)) ((BA [(V.weak t0),t1,(V.weak t2)] 24 (V.ref 0 [] 24)).bind fun a193=>(Aa [(V.weak t0),t1,(V.weak t2)] 26 (V.ref 1 [] 26)).bind fun a194=>(fA 33 28 1 (V.ref 2 [] 33)).bind fun a195=>(BA [(V.weak t0),t1,(V.weak t2)] 28 a195).bind fun a196=>(DK a196).bind fun a197=>(Cl 12 (AL [(V.weak t0),t1,(V.weak t2)] [a193,a194,a197]) []).bind fun a198=>(un .not a198.1).bind fun a199=>V.ite a199 (a178 (V.bool true)) ((fA 33 29 2 (V.ref 2 [] 33)).bind fun a200=>(BA [(V.weak t0),t1,(V.weak t2)] 29 a200).bind fun a201=>(DK a201).bind fun a202=>(fA 33 28 1 (V.ref 2 [] 33)).bind fun a203=>(BA [(V.weak t0),t1,(V.weak t2)] 28 a203).bind fun a204=>(DK a204).bind fun a205=>(AO .neq a202 a205).bind fun a206=>a178 a206)))))))else none else none else none:=
 BF (by kernel_rfl)
theorem ANc:Cl 9 [] []=
 ((ck [(NZ .i64) (V.int .i64 2)] [(V.int .i64 2),(V.lst 112 .nil [])]).map (.agg 23)).bind fun a1=>((ck [tyS (V.str [109,97,120]),(NZ .i64) (V.int .i64 2)] [(V.str [109,97,120]),(V.int .i64 0),(V.int .i64 2)]).map (.agg 25)).bind fun a2=>(Cc (BK 23) 24 [(V.agg 23 [(V.int .i64 0),(V.lst 112 .nil [])]),(V.agg 25 [(V.str []),(V.int .i64 0),(V.int .i64 0)])] (V.ref 0 [] 24) a1).bind fun a3=>(Cc (BK 25) 26 a3 (V.ref 1 [] 26) a2).bind fun a4=>(BA a4 24 (V.ref 0 [] 24)).bind fun a5=>(Aa a4 26 (V.ref 1 [] 26)).bind fun a6=>(Cl 10 (AL a4 [a5,a6,(V.int .i64 2)]) []).bind fun a7=>(FQ a7.1 0).bind fun a8=>(ext a7.1 1).bind fun a9=>(Cc (BK 32) 33 (a4++[(V.agg 32 [(V.int .i64 0),(V.lst 4 .nil []),(V.lst 55 .nil []),(V.lst 58 .nil []),(V.lst 108 .nil [])])]) (V.ref (List.length a4) [] 33) a8).bind fun a10=>(BA a10 33 (V.ref (List.length a4) [] 33)).bind fun a11=>(Cl 20 (AL a10 [a11,(V.int .i64 1)]) []).bind fun a12=>(ext a12.1 0).bind fun a13=>(ext a12.1 1).bind fun a14=>(BA a10 24 (V.ref 0 [] 24)).bind fun a15=>(Aa a10 26 (V.ref 1 [] 26)).bind fun a16=>(BA a10 33 (V.ref (List.length a4) [] 33)).bind fun a17=>(Cl 23 (AL a10 [a15,a16,a17,a13]) []).bind fun a18=>(FQ a18.1 0).bind fun a19=>(ext a18.1 1).bind fun a20=>(Cc (BK 32) 33 (a10++[(V.agg 32 [(V.int .i64 0),(V.lst 4 .nil []),(V.lst 55 .nil []),(V.lst 58 .nil []),(V.lst 108 .nil [])])]) (V.ref (List.length a10) [] 33) a19).bind fun a21=>(BA a21 33 (V.ref (List.length a4) [] 33)).bind fun a22=>(mkL 60 (V.agg 59 [(V.int .i64 0),(V.int .i64 0),(V.agg 56 [(V.int .i64 0),(V.int .i64 0),(V.agg 54 (List.replicate 32 (V.int .u8 0))),(V.lst 55 .nil [])]),(V.lst 108 .nil []),(V.lst 9 .nil [])]) (V.int .i64 2) (V.int .i64 2)).bind fun a23=>(Cl 17 (AL a21 [a22,a23]) []).bind fun a24=>(ext a24.1 0).bind fun a25=>(ext a24.1 1).bind fun a26=>(BA a21 24 (V.ref 0 [] 24)).bind fun a27=>(Aa a21 26 (V.ref 1 [] 26)).bind fun a28=>(BA a21 33 (V.ref (List.length a4) [] 33)).bind fun a29=>(Cl 23 (AL a21 [a27,a28,a29,a25]) []).bind fun a30=>(FQ a30.1 0).bind fun a31=>(ext a30.1 1).bind fun a32=>(Cc (BK 32) 33 (a21++[(V.agg 32 [(V.int .i64 0),(V.lst 4 .nil []),(V.lst 55 .nil []),(V.lst 58 .nil []),(V.lst 108 .nil [])])]) (V.ref (List.length a21) [] 33) a31).bind fun a33=>(BA a33 24 (V.ref 0 [] 24)).bind fun a34=>(Aa a33 26 (V.ref 1 [] 26)).bind fun a35=>(LX 9 false (ck [tyS a13,tyS a25,tyS (V.str [120])] [a13,a25,(V.str [120])])).bind fun a36=>(Cl 28 (AL a33 [a34,a35,(V.int .i64 2),a36]) []).bind fun a37=>(FQ a37.1 0).bind fun a38=>(ext a37.1 1).bind fun a39=>(ext a37.1 2).bind fun a40=>(Cc (BK 32) 33 (a33++[(V.agg 32 [(V.int .i64 0),(V.lst 4 .nil []),(V.lst 55 .nil []),(V.lst 58 .nil []),(V.lst 108 .nil [])])]) (V.ref (List.length a33) [] 33) a38).bind fun a41=>jn (fun a42=>
 AV 0 a41 a42) (fun(a43:V→Rv)=>(AO .eql a9 (V.int .i64 0)).bind fun a44=>V.ite a44 ((fA 33 28 1 (V.ref (List.length a4) [] 33)).bind fun a45=>(BA a41 28 a45).bind fun a46=>(DK a46).bind fun a47=>(AO .eql a47 (V.int .i64 2)).bind fun a48=>V.ite a48 ((AO .eql a13 (V.str [69,1])).bind fun a49=>V.ite a49 ((AO .eql a14 (V.int .i64 0)).bind fun a50=>V.ite a50 ((AO .eql a20 (V.int .i64 0)).bind fun a51=>V.ite a51 ((fA 33 28 1 (V.ref (List.length a10) [] 33)).bind fun a52=>(BA a41 28 a52).bind fun a53=>(Di 4 a53 (V.int .i64 1)).bind fun a54=>(Aa a41 4 a54).bind fun a55=>V.ite a55 ((fA 33 28 1 (V.ref (List.length a10) [] 33)).bind fun a56=>(BA a41 28 a56).bind fun a57=>(Di 4 a57 (V.int .i64 0)).bind fun a58=>(Aa a41 4 a58).bind fun a59=>(un .not a59).bind fun a60=>V.ite a60 ((fA 33 3 0 (V.ref (List.length a10) [] 33)).bind fun a61=>(Aa a41 3 a61).bind fun a62=>(AO .eql a62 (V.int .i64 0)).bind fun a63=>V.ite a63 ((AO .eql a26 (V.int .i64 0)).bind fun a64=>V.ite a64 ((AO .eql a32 (V.int .i64 0)).bind fun a65=>V.ite a65 ((fA 33 3 0 (V.ref (List.length a21) [] 33)).bind fun a66=>(Aa a41 3 a66).bind fun a67=>(AO .eql a67 (V.int .i64 1)).bind fun a68=>V.ite a68 ((AO .eql a39 (V.int .i64 2)).bind fun a69=>V.ite a69 ((AO .eql a40 (V.int .i64 0)).bind fun a70=>V.ite a70 ((fA 33 3 0 (V.ref (List.length a33) [] 33)).bind fun a71=>(Aa a41 3 a71).bind fun a72=>(AO .eql a72 (V.int .i64 1)).bind fun a73=>V.ite a73 ((fA 33 28 1 (V.ref (List.length a33) [] 33)).bind fun a74=>(BA a41 28 a74).bind fun a75=>(Di 4 a75 (V.int .i64 1)).bind fun a76=>(Aa a41 4 a76).bind fun a77=>a43 a77) (a43 (V.bool false))) (a43 (V.bool false))) (a43 (V.bool false))) (a43 (V.bool false))) (a43 (V.bool false))) (a43 (V.bool false))) (a43 (V.bool false))) (a43 (V.bool false))) (a43 (V.bool false))) (a43 (V.bool false))) (a43 (V.bool false))) (a43 (V.bool false))) (a43 (V.bool false))) (a43 (V.bool false))):=
 BF (by kernel_rfl)
def LY (t2 t3 t4 t6 t8 t31 t32:V) (h:List V):Rv:=lp W 10 0 (cd 10 151) (bk 0 (sk 10 0 31 (lv 10 0))) ⟨[(2,t2),(3,t3),(4,t4),(6,t6),(8,t8),(31,t31),(32,t32)],h⟩
def OZ (t2 t3 t4 t6 t8 t12 t31 t32 t43 t44 t45:V) (m0:Nat) (h:List V):Rv:=lp W 10 2 (cd 10 309655) (bk 2 (sk 10 1 63895 (bk 1 (sk 10 0 1943 (lk 10 0 m0 151 (bk 0 (sk 10 0 31 (lv 10 0)))))))) ⟨[(2,t2),(3,t3),(4,t4),(6,t6),(8,t8),(12,t12),(31,t31),(32,t32),(43,t43),(44,t44),(45,t45)],h⟩
theorem RG (t2 t3 t4 t6 t8 t12 t31 t32 t43 t44 t45:V) (m0:Nat) (h:List V):OZ t2 t3 t4 t6 t8 t12 t31 t32 t43 t44 t45 m0 h=
 (AO .lss t45 t44).bind fun a15=>V.ite a15
  ((Di 3 t43 t45).bind fun a16=>(Aa h 3 a16).bind fun a17=>(Aa h 26 t4).bind fun a18=>(Cl 34 (AL h [a18,a17]) []).bind fun a19=>(LX 81 false (ck [(BK 80) a19.1] [a19.1])).bind fun a20=>(G6 81 (BK 80) false h t12 a20).bind fun a21=>(AO .add t45 (V.int .i64 1)).bind fun a22=>OZ t2 t3 t4 t6 t8 a21 t31 t32 t43 t44 a22 m0 h)
  ((fA 33 29 2 t8).bind fun a23=>if(AB5 t8 2 a23&&Ey t8 a23)=true then(Bd h 29 a23).bind fun a24=>CU P Dn W (some t8) (V.clo 35 []) [(V.weak t12)] a24.2 fun a25 a26=>(LX 55 false (ck [(BK 54) a25] [a25])).bind fun a27=>if Dq true [a24.1,a27]=true then(G6 55 (BK 54) false a26 a24.1 a27).bind fun a28=>(fA 33 30 3 t8).bind fun a29=>if(AB5 t8 3 a29&&Ey t8 a29)=true then(Bd a26 30 a29).bind fun a30=>CU P Dn W (some t8) (V.clo 36 []) [(V.weak t12)] a30.2 fun a31 a32=>(LX 58 true (ck [(JS 9) a31] [(V.weak a31)])).bind fun a33=>(G6 58 (JS 9) true a32 a30.1 a33).bind fun a34=>(fA 33 29 2 t8).bind fun a35=>(Cc (JS 55) 29 a32 a35 a28).bind fun a36=>(fA 33 30 3 t8).bind fun a37=>(Cc (JS 58) 30 a36 a37 a34).bind fun a38=>(AO .add t32 (V.int .i64 1)).bind fun a39=>LY t2 t3 t4 t6 t8 t31 a39 a38 else none else none else none):=
 CX (by kernel_rfl)
theorem RH (t2 t3 t4 t6 t8 t31 t32:V) (h:List V):LY t2 t3 t4 t6 t8 t31 t32 h=
 (AO .lss t32 t31).bind fun a8=>V.ite a8
  ((fA 24 3 0 t3).bind fun a9=>(Aa h 3 a9).bind fun a10=>(Cl 33 (AL h [a10,t2,t32]) []).bind fun a11=>(FQ a11.1 0).bind fun a12=>(ext a11.1 1).bind fun a13=>(DK a12).bind fun a14=>OZ t2 t3 t4 t6 t8 (V.weak (V.lst 81 .nil [])) t31 t32 a12 a14 (V.int .i64 0) (List.length h) h)
  ((BA h 33 t8).bind fun a40=>(Cc (BK 32) 33 h t6 a40).bind fun a41=>(BA a41 33 t6).bind fun a42=>if(List.all [(V.int .i64 0),a42] V.okE)=true then AV 0 a41 (V.tup [a42,(V.int .i64 0)])else none):=
 CX (by kernel_rfl)
theorem ADj (t0 t1 t2:V):Cl 10 [t0,t1,t2] []=
 if((BK 23) (V.weak t0)&&V.under 0 (V.weak t0))=true then if((BK 25) t1&&V.under 1 t1)=true then jn (fun a1=>
 V.ite a1
  (((ck [] [(V.int .i64 0),(V.lst 4 .nil []),(V.lst 55 .nil []),(V.lst 58 .nil []),(V.lst 108 .nil [])]).map (.agg 32)).bind fun a2=>(Cc (BK 32) 33 [(V.weak t0),t1,(V.agg 32 [(V.int .i64 0),(V.lst 4 .nil []),(V.lst 55 .nil []),(V.lst 58 .nil []),(V.lst 108 .nil [])])] (V.ref 2 [] 33) a2).bind fun a3=>(BA a3 33 (V.ref 2 [] 33)).bind fun a4=>if(List.all [(V.int .i64 170),a4] V.okE)=true then AV 0 a3 (V.tup [a4,(V.int .i64 170)])else none)
  ((mkL 4 (V.bool false) t2 t2).bind fun a5=>((ck [(JS 4) a5] [(V.int .i64 0),(V.weak a5),(V.lst 55 .nil []),(V.lst 58 .nil []),(V.lst 108 .nil [])]).map (.agg 32)).bind fun a6=>(Cc (BK 32) 33 [(V.weak t0),t1,(V.agg 32 [(V.int .i64 0),(V.lst 4 .nil []),(V.lst 55 .nil []),(V.lst 58 .nil []),(V.lst 108 .nil [])]),(V.agg 32 [(V.int .i64 0),(V.lst 4 .nil []),(V.lst 55 .nil []),(V.lst 58 .nil []),(V.lst 108 .nil [])])] (V.ref 3 [] 33) a6).bind fun a7=>LY t2 (V.ref 0 [] 24) (V.ref 1 [] 26) (V.ref 2 [] 33) (V.ref 3 [] 33) t2 (V.int .i64 0) a7)) (fun(a43:V→Rv)=>(BA [(V.weak t0),t1,(V.agg 32 [(V.int .i64 0),(V.lst 4 .nil []),(V.lst 55 .nil []),(V.lst 58 .nil []),(V.lst 108 .nil [])])] 24 (V.ref 0 [] 24)).bind fun a44=>(Aa [(V.weak t0),t1,(V.agg 32 [(V.int .i64 0),(V.lst 4 .nil []),(V.lst 55 .nil []),(V.lst 58 .nil []),(V.lst 108 .nil [])])] 26 (V.ref 1 [] 26)).bind fun a45=>(Cl 32 (AL [(V.weak t0),t1,(V.agg 32 [(V.int .i64 0),(V.lst 4 .nil []),(V.lst 55 .nil []),(V.lst 58 .nil []),(V.lst 108 .nil [])])] [a44,a45]) []).bind fun a46=>(AO .neq a46.1 (V.int .i64 0)).bind fun a47=>V.ite a47 (a43 (V.bool true)) ((AO .lss t2 (V.int .i64 1)).bind fun a48=>V.ite a48 (a43 (V.bool true)) ((AO .gtr t2 (V.int .i64 64)).bind fun a49=>a43 a49)))else none else none:=
 BF (by kernel_rfl)
theorem AKb (t0:V):Cl 11 [t0] []=
 if((BK 23) (V.weak t0)&&V.under 0 (V.weak t0))=true then(fA 24 3 0 (V.ref 0 [] 24)).bind fun a1=>(Aa [(V.weak t0),(V.agg 23 [(V.int .i64 0),(V.lst 112 .nil [])])] 3 a1).bind fun a2=>(LX 112 false (ck [] [])).bind fun a3=>(fA 24 22 1 (V.ref 0 [] 24)).bind fun a4=>(BA [(V.weak t0),(V.agg 23 [(V.int .i64 0),(V.lst 112 .nil [])])] 22 a4).bind fun a5=>(G6 112 (BK 111) false [(V.weak t0),(V.agg 23 [(V.int .i64 0),(V.lst 112 .nil [])])] a3 a5).bind fun a6=>((ck [(NZ .i64) a2,(JS 112) a6] [a2,(V.weak a6)]).map (.agg 23)).bind fun a7=>(Cc (BK 23) 24 [(V.weak t0),(V.agg 23 [(V.int .i64 0),(V.lst 112 .nil [])])] (V.ref 1 [] 24) a7).bind fun a8=>(BA a8 24 (V.ref 1 [] 24)).bind fun a9=>AV 0 a8 a9 else none:=
 BF (by kernel_rfl)
theorem AKc (t0 t1 t2:V):Cl 12 [t0,t1,t2] []=
 if((BK 23) (V.weak t0)&&V.under 0 (V.weak t0))=true then if((BK 25) t1&&V.under 1 t1)=true then jn (fun a1=>
 AV 0 [(V.weak t0),t1] a1) (fun(a2:V→Rv)=>(BA [(V.weak t0),t1] 24 (V.ref 0 [] 24)).bind fun a3=>(Aa [(V.weak t0),t1] 26 (V.ref 1 [] 26)).bind fun a4=>(Cl 37 (AL [(V.weak t0),t1] [a3,a4]) []).bind fun a5=>V.ite a5.1 ((AO .geq t2 (V.int .i64 1)).bind fun a6=>V.ite a6 ((AO .leq t2 (V.int .i64 64)).bind fun a7=>a2 a7) (a2 (V.bool false))) (a2 (V.bool false)))else none else none:=
 BF (by kernel_rfl)
def UC (t2 t3 t5:V) (h:List V):Rv:=lp W 13 0 (cd 13 75) (bk 0 (sk 13 0 15 (lv 13 0))) ⟨[(2,t2),(3,t3),(5,t5)],h⟩
def UD (t2 t3 t6:V) (h:List V):Rv:=lp W 13 2 (cd 13 151) (bk 2 (sk 13 0 31 (lv 13 0))) ⟨[(2,t2),(3,t3),(6,t6)],h⟩
def UE (t2 t3 t7:V) (h:List V):Rv:=lp W 13 4 (cd 13 303) (bk 4 (sk 13 0 63 (lv 13 0))) ⟨[(2,t2),(3,t3),(7,t7)],h⟩
theorem RI (t2 t3 t7:V) (h:List V):UE t2 t3 t7 h=
 (fA 33 30 3 t2).bind fun a30=>(BA h 30 a30).bind fun a31=>(DK a31).bind fun a32=>(AO .lss t7 a32).bind fun a33=>V.ite a33
  ((fA 33 30 3 t2).bind fun a34=>(BA h 30 a34).bind fun a35=>(Di 58 a35 t7).bind fun a36=>(BA h 58 a36).bind fun a37=>(fA 33 30 3 t3).bind fun a38=>(BA h 30 a38).bind fun a39=>(Di 58 a39 t7).bind fun a40=>(BA h 58 a40).bind fun a41=>(Cl 25 (AL h [a37,a41]) []).bind fun a42=>(un .not a42.1).bind fun a43=>V.ite a43
  (AV 0 h (V.bool false))
  ((AO .add t7 (V.int .i64 1)).bind fun a44=>UE t2 t3 a44 h))
  (AV 0 h (V.bool true)):=
 CX (by kernel_rfl)
theorem RJ (t2 t3 t6:V) (h:List V):UD t2 t3 t6 h=
 (fA 33 29 2 t2).bind fun a16=>(BA h 29 a16).bind fun a17=>(DK a17).bind fun a18=>(AO .lss t6 a18).bind fun a19=>V.ite a19
  ((fA 33 29 2 t2).bind fun a20=>(BA h 29 a20).bind fun a21=>(Di 55 a21 t6).bind fun a22=>(Aa h 55 a22).bind fun a23=>(fA 33 29 2 t3).bind fun a24=>(BA h 29 a24).bind fun a25=>(Di 55 a25 t6).bind fun a26=>(Aa h 55 a26).bind fun a27=>(NU (BK 54) .neq a23 a27).bind fun a28=>V.ite a28
  (AV 0 h (V.bool false))
  ((AO .add t6 (V.int .i64 1)).bind fun a29=>UD t2 t3 a29 h))
  (UE t2 t3 (V.int .i64 0) h):=
 CX (by kernel_rfl)
theorem RN (t2 t3 t5:V) (h:List V):UC t2 t3 t5 h=
 (fA 33 28 1 t2).bind fun a2=>(BA h 28 a2).bind fun a3=>(DK a3).bind fun a4=>(AO .lss t5 a4).bind fun a5=>V.ite a5
  ((fA 33 28 1 t2).bind fun a6=>(BA h 28 a6).bind fun a7=>(Di 4 a7 t5).bind fun a8=>(Aa h 4 a8).bind fun a9=>(fA 33 28 1 t3).bind fun a10=>(BA h 28 a10).bind fun a11=>(Di 4 a11 t5).bind fun a12=>(Aa h 4 a12).bind fun a13=>(NU tyB .neq a9 a13).bind fun a14=>V.ite a14
  (AV 0 h (V.bool false))
  ((AO .add t5 (V.int .i64 1)).bind fun a15=>UC t2 t3 a15 h))
  (UD t2 t3 (V.int .i64 0) h):=
 CX (by kernel_rfl)
theorem AKd (t0 t1:V):Cl 13 [t0,t1] []=
 if((BK 32) (V.weak t0)&&V.under 0 (V.weak t0))=true then if((BK 32) (V.weak t1)&&V.under 1 (V.weak t1))=true then jn (fun a1=>
 V.ite a1
  (AV 0 [(V.weak t0),(V.weak t1)] (V.bool false))
  (UC (V.ref 0 [] 33) (V.ref 1 [] 33) (V.int .i64 0) [(V.weak t0),(V.weak t1)])) (fun(a45:V→Rv)=>(fA 33 3 0 (V.ref 0 [] 33)).bind fun a46=>(Aa [(V.weak t0),(V.weak t1)] 3 a46).bind fun a47=>(fA 33 3 0 (V.ref 1 [] 33)).bind fun a48=>(Aa [(V.weak t0),(V.weak t1)] 3 a48).bind fun a49=>(AO .neq a47 a49).bind fun a50=>V.ite a50 (a45 (V.bool true)) ((fA 33 28 1 (V.ref 0 [] 33)).bind fun a51=>(BA [(V.weak t0),(V.weak t1)] 28 a51).bind fun a52=>(DK a52).bind fun a53=>(fA 33 28 1 (V.ref 1 [] 33)).bind fun a54=>(BA [(V.weak t0),(V.weak t1)] 28 a54).bind fun a55=>(DK a55).bind fun a56=>(AO .neq a53 a56).bind fun a57=>V.ite a57 (a45 (V.bool true)) ((fA 33 29 2 (V.ref 0 [] 33)).bind fun a58=>(BA [(V.weak t0),(V.weak t1)] 29 a58).bind fun a59=>(DK a59).bind fun a60=>(fA 33 29 2 (V.ref 1 [] 33)).bind fun a61=>(BA [(V.weak t0),(V.weak t1)] 29 a61).bind fun a62=>(DK a62).bind fun a63=>(AO .neq a60 a63).bind fun a64=>V.ite a64 (a45 (V.bool true)) ((fA 33 30 3 (V.ref 0 [] 33)).bind fun a65=>(BA [(V.weak t0),(V.weak t1)] 30 a65).bind fun a66=>(DK a66).bind fun a67=>(fA 33 30 3 (V.ref 1 [] 33)).bind fun a68=>(BA [(V.weak t0),(V.weak t1)] 30 a68).bind fun a69=>(DK a69).bind fun a70=>(AO .neq a67 a70).bind fun a71=>V.ite a71 (a45 (V.bool true)) ((fA 33 31 4 (V.ref 0 [] 33)).bind fun a72=>(BA [(V.weak t0),(V.weak t1)] 31 a72).bind fun a73=>(fA 33 31 4 (V.ref 1 [] 33)).bind fun a74=>(BA [(V.weak t0),(V.weak t1)] 31 a74).bind fun a75=>(Cl 38 (AL [(V.weak t0),(V.weak t1)] [a73,a75]) []).bind fun a76=>(un .not a76.1).bind fun a77=>a45 a77)))))else none else none:=
 BF (by kernel_rfl)
def UF (t1 t3:V) (h:List V):Rv:=lp W 15 0 (cd 15 37) (bk 0 (sk 15 0 7 (lv 15 0))) ⟨[(1,t1),(3,t3)],h⟩
theorem I8 (t1 t3:V) (h:List V):UF t1 t3 h=
 (fA 33 30 3 t1).bind fun a1=>(BA h 30 a1).bind fun a2=>(DK a2).bind fun a3=>(AO .lss t3 a3).bind fun a4=>V.ite a4
  (jn (fun a5=>
 V.ite a5
  (AV 0 h (V.bool false))
  ((AO .add t3 (V.int .i64 1)).bind fun a6=>UF t1 a6 h)) (fun(a7:V→Rv)=>(fA 33 30 3 t1).bind fun a8=>(BA h 30 a8).bind fun a9=>(Di 58 a9 t3).bind fun a10=>(BA h 58 a10).bind fun a11=>(DK a11).bind fun a12=>(AO .gtr a12 (V.int .i64 12)).bind fun a13=>V.ite a13 (a7 (V.bool true)) ((fA 33 30 3 t1).bind fun a14=>(BA h 30 a14).bind fun a15=>(Di 58 a15 t3).bind fun a16=>(BA h 58 a16).bind fun a17=>(Cl 27 (AL h [a17]) []).bind fun a18=>(un .not a18.1).bind fun a19=>a7 a19)))
  (jn (fun a20=>
 AV 0 h a20) (fun(a21:V→Rv)=>(fA 33 28 1 t1).bind fun a22=>(BA h 28 a22).bind fun a23=>(DK a23).bind fun a24=>(AO .leq a24 (V.int .i64 8)).bind fun a25=>V.ite a25 ((fA 33 29 2 t1).bind fun a26=>(BA h 29 a26).bind fun a27=>(DK a27).bind fun a28=>(AO .leq a28 (V.int .i64 8)).bind fun a29=>V.ite a29 ((fA 33 30 3 t1).bind fun a30=>(BA h 30 a30).bind fun a31=>(DK a31).bind fun a32=>(AO .leq a32 (V.int .i64 8)).bind fun a33=>V.ite a33 ((fA 33 31 4 t1).bind fun a34=>(BA h 31 a34).bind fun a35=>(DK a35).bind fun a36=>(AO .leq a36 (V.int .i64 20)).bind fun a37=>a21 a37) (a21 (V.bool false))) (a21 (V.bool false))) (a21 (V.bool false)))):=
 CX (by kernel_rfl)
theorem AKe (t0:V):Cl 15 [t0] []=
 if((BK 32) (V.weak t0)&&V.under 0 (V.weak t0))=true then UF (V.ref 0 [] 33) (V.int .i64 0) [(V.weak t0)]else none:=
 BF (by kernel_rfl)
def UG (t0 t3:V):Rv:=lp W 16 0 (cd 16 37) (bk 0 (sk 16 0 7 (lv 16 0))) ⟨[(0,t0),(3,t3)],[]⟩
theorem I9 (t0 t3:V):UG t0 t3=
 (DK (V.weak t0)).bind fun a1=>(AO .lss t3 a1).bind fun a2=>V.ite a2
  (jn (fun a3=>
 V.ite a3
  (AV 0 [] (V.bool false))
  ((AO .add t3 (V.int .i64 1)).bind fun a4=>UG t0 a4)) (fun(a5:V→Rv)=>(Di 60 (V.weak t0) t3).bind fun a6=>(fA 60 58 4 a6).bind fun a7=>(BA [] 58 a7).bind fun a8=>(Cl 27 (AL [] [a8]) []).bind fun a9=>(un .not a9.1).bind fun a10=>V.ite a10 (a5 (V.bool true)) ((Di 60 (V.weak t0) t3).bind fun a11=>(fA 60 31 3 a11).bind fun a12=>(BA [] 31 a12).bind fun a13=>(DK a13).bind fun a14=>(AO .gtr a14 (V.int .i64 20)).bind fun a15=>a5 a15)))
  ((DK t0).bind fun a16=>(AO .leq a16 (V.int .i64 8)).bind fun a17=>AV 0 [] a17):=
 CX (by kernel_rfl)
theorem AKf (t0:V):Cl 16 [t0] []=
 UG t0 (V.int .i64 0):=
 BF (by kernel_rfl)
def Oa (t7 t8 t39 t40 t41:V) (h:List V):Rv:=lp W 17 0 (cd 17 2431) (bk 0 (sk 17 0 511 (lv 17 0))) ⟨[(7,t7),(8,t8),(39,t39),(40,t40),(41,t41)],h⟩
def UH (t7 t8 t10 t39 t40 t41 t57 t58 t59:V) (m0:Nat) (h:List V):Rv:=lp W 17 2 (cd 17 4954495) (bk 2 (sk 17 1 1022335 (bk 1 (sk 17 0 31103 (lk 17 0 m0 2431 (bk 0 (sk 17 0 511 (lv 17 0)))))))) ⟨[(7,t7),(8,t8),(10,t10),(39,t39),(40,t40),(41,t41),(57,t57),(58,t58),(59,t59)],h⟩
theorem RP (t7 t8 t10 t39 t40 t41 t57 t58 t59:V) (m0:Nat) (h:List V):UH t7 t8 t10 t39 t40 t41 t57 t58 t59 m0 h=
 (AO .lss t59 t58).bind fun a26=>V.ite a26
  ((Di 9 t57 t59).bind fun a27=>(Aa h 9 a27).bind fun a28=>(Cl 48 (AP [t7,a28]) h).bind fun a29=>(AO .add t59 (V.int .i64 1)).bind fun a30=>UH t7 t8 t10 t39 t40 t41 t57 t58 a30 m0 a29.2)
  ((fA 60 31 3 t10).bind fun a31=>(BA h 31 a31).bind fun a32=>(G6 108 (BK 107) false h t8 a32).bind fun a33=>(AO .add t41 (V.int .i64 1)).bind fun a34=>if Ae m0 [t7,a33,t39,t40,a34]=true then Oa t7 a33 t39 t40 a34 (List.take m0 h)else none):=
 CX (by kernel_rfl)
theorem RQ (t7 t8 t39 t40 t41:V) (h:List V):Oa t7 t8 t39 t40 t41 h=
 (AO .lss t41 t40).bind fun a10=>V.ite a10
  ((Di 60 t39 t41).bind fun a11=>(BA h 60 a11).bind fun a12=>(Cc (BK 59) 60 (h++[(V.agg 59 [(V.int .i64 0),(V.int .i64 0),(V.agg 56 [(V.int .i64 0),(V.int .i64 0),(V.agg 54 (List.replicate 32 (V.int .u8 0))),(V.lst 55 .nil [])]),(V.lst 108 .nil []),(V.lst 9 .nil [])])]) (V.ref (List.length h) [] 60) a12).bind fun a13=>(fA 60 57 2 (V.ref (List.length h) [] 60)).bind fun a14=>(fA 57 55 2 a14).bind fun a15=>(Aa a13 55 a15).bind fun a16=>(Cl 47 (AP [t7,a16]) a13).bind fun a17=>(fA 60 58 4 (V.ref (List.length h) [] 60)).bind fun a18=>(BA a17.2 58 a18).bind fun a19=>(DK a19).bind fun a20=>(OW .u64 a20).bind fun a21=>(Cl 46 (AP [t7,a21]) a17.2).bind fun a22=>(fA 60 58 4 (V.ref (List.length h) [] 60)).bind fun a23=>(BA a22.2 58 a23).bind fun a24=>(DK a24).bind fun a25=>UH t7 t8 (V.ref (List.length h) [] 60) t39 t40 t41 a24 a25 (V.int .i64 0) (List.length h) a22.2)
  ((Cl 49 (AL h [t8]) []).bind fun a35=>(ext a35.1 0).bind fun a36=>(ext a35.1 1).bind fun a37=>(AO .neq a37 (V.int .i64 0)).bind fun a38=>V.ite a38
  (if(List.all [(V.int .i64 170),(V.str [])] V.okE)=true then AV 0 h (V.tup [(V.str []),(V.int .i64 170)])else none)
  ((Cl 48 (AP [t7,a36]) h).bind fun a39=>(Cl 50 (AP [t7]) a39.2).bind fun a40=>if(List.all [(V.int .i64 0),a40.1] V.okE)=true then AV 0 a40.2 (V.tup [a40.1,(V.int .i64 0)])else none)):=
 CX (by kernel_rfl)
theorem UI (t0 t1:V):Cl 17 [t0,t1] []=
 if((BK 32) (V.weak t0)&&V.under 0 (V.weak t0))=true then jn (fun a1 a2=>
 V.ite a1
  (if(List.all [(V.int .i64 170),(V.str [])] V.okE)=true then AV 0 a2 (V.tup [(V.str []),(V.int .i64 170)])else none)
  ((Cl 45 (AP []) a2).bind fun a3=>(Cl 46 (AP [a3.1,(V.int .u64 65)]) a3.2).bind fun a4=>(fA 33 3 0 (V.ref 0 [] 33)).bind fun a5=>(Aa a4.2 3 a5).bind fun a6=>(OW .u64 a6).bind fun a7=>(Cl 46 (AP [a3.1,a7]) a4.2).bind fun a8=>(DK t1).bind fun a9=>Oa a3.1 (V.weak (V.lst 108 .nil [])) t1 a9 (V.int .i64 0) a8.2)) (fun(a41:V→List V→Rv)=>(DK (V.weak t1)).bind fun a42=>(fA 33 29 2 (V.ref 0 [] 33)).bind fun a43=>(BA [(V.weak t0)] 29 a43).bind fun a44=>(DK a44).bind fun a45=>(AO .neq a42 a45).bind fun a46=>V.ite a46 (a41 (V.bool true) [(V.weak t0)]) ((Cl 44 (AP [(V.weak t1),(V.clo 43 [])]) [(V.weak t0)]).bind fun a47=>V.ite a47.1 (a41 (V.bool true) a47.2) ((fA 33 3 0 (V.ref 0 [] 33)).bind fun a48=>(Aa a47.2 3 a48).bind fun a49=>(AO .lss a49 (V.int .i64 0)).bind fun a50=>a41 a50 a47.2)))else none:=
 BF (by kernel_rfl)
def UJ (t1 t2 t3 t4:V) (h:List V):Rv:=lp W 18 0 (cd 18 75) (bk 0 (sk 18 0 15 (lv 18 0))) ⟨[(1,t1),(2,t2),(3,t3),(4,t4)],h⟩
theorem RS (t1 t2 t3 t4:V) (h:List V):UJ t1 t2 t3 t4 h=
 (fA 33 30 3 t1).bind fun a17=>(BA h 30 a17).bind fun a18=>(DK a18).bind fun a19=>(AO .lss t4 a19).bind fun a20=>V.ite a20
  (if(MP t3 t1&&true)=true then(fA 33 30 3 t3).bind fun a21=>if Ey t3 a21=true then(Bd h 30 a21).bind fun a22=>(LX 9 false (ck [] [])).bind fun a23=>(fA 33 30 3 t1).bind fun a24=>if Ey t1 a24=true then(BA a22.2 30 a24).bind fun a25=>(Di 58 a25 t4).bind fun a26=>if Dq true [a26]=true then(BA a22.2 58 a26).bind fun a27=>if Dq true [a23,a27]=true then(G6 9 tyS false a22.2 a23 a27).bind fun a28=>(LX 58 true (ck [(JS 9) a28] [(V.weak a28)])).bind fun a29=>(G6 58 (JS 9) true a22.2 a22.1 a29).bind fun a30=>(fA 33 30 3 t3).bind fun a31=>(Cc (JS 58) 30 a22.2 a31 a30).bind fun a32=>(AO .add t4 (V.int .i64 1)).bind fun a33=>UJ t1 t2 t3 a33 a32 else none else none else none else none else none)
  ((BA h 33 t3).bind fun a34=>(Cc (BK 32) 33 h t2 a34).bind fun a35=>(BA a35 33 t2).bind fun a36=>AV 0 a35 a36):=
 CX (by kernel_rfl)
theorem AKg (t0:V):Cl 18 [t0] []=
 if((BK 32) (V.weak t0)&&V.under 0 (V.weak t0))=true then(fA 33 3 0 (V.ref 0 [] 33)).bind fun a1=>(Aa [(V.weak t0),(V.agg 32 [(V.int .i64 0),(V.lst 4 .nil []),(V.lst 55 .nil []),(V.lst 58 .nil []),(V.lst 108 .nil [])])] 3 a1).bind fun a2=>(LX 4 false (ck [] [])).bind fun a3=>(fA 33 28 1 (V.ref 0 [] 33)).bind fun a4=>(BA [(V.weak t0),(V.agg 32 [(V.int .i64 0),(V.lst 4 .nil []),(V.lst 55 .nil []),(V.lst 58 .nil []),(V.lst 108 .nil [])])] 28 a4).bind fun a5=>if Dq true [a3,a5]=true then(G6 4 tyB false [(V.weak t0),(V.agg 32 [(V.int .i64 0),(V.lst 4 .nil []),(V.lst 55 .nil []),(V.lst 58 .nil []),(V.lst 108 .nil [])])] a3 a5).bind fun a6=>(LX 55 false (ck [] [])).bind fun a7=>(fA 33 29 2 (V.ref 0 [] 33)).bind fun a8=>(BA [(V.weak t0),(V.agg 32 [(V.int .i64 0),(V.lst 4 .nil []),(V.lst 55 .nil []),(V.lst 58 .nil []),(V.lst 108 .nil [])])] 29 a8).bind fun a9=>if Dq true [a7,a9]=true then(G6 55 (BK 54) false [(V.weak t0),(V.agg 32 [(V.int .i64 0),(V.lst 4 .nil []),(V.lst 55 .nil []),(V.lst 58 .nil []),(V.lst 108 .nil [])])] a7 a9).bind fun a10=>(LX 108 false (ck [] [])).bind fun a11=>(fA 33 31 4 (V.ref 0 [] 33)).bind fun a12=>(BA [(V.weak t0),(V.agg 32 [(V.int .i64 0),(V.lst 4 .nil []),(V.lst 55 .nil []),(V.lst 58 .nil []),(V.lst 108 .nil [])])] 31 a12).bind fun a13=>if Dq true [a11,a13]=true then(G6 108 (BK 107) false [(V.weak t0),(V.agg 32 [(V.int .i64 0),(V.lst 4 .nil []),(V.lst 55 .nil []),(V.lst 58 .nil []),(V.lst 108 .nil [])])] a11 a13).bind fun a14=>((ck [(NZ .i64) a2,(JS 4) a6,(JS 55) a10,(JS 108) a14] [a2,(V.weak a6),(V.weak a10),(V.lst 58 .nil []),(V.weak a14)]).map (.agg 32)).bind fun a15=>(Cc (BK 32) 33 [(V.weak t0),(V.agg 32 [(V.int .i64 0),(V.lst 4 .nil []),(V.lst 55 .nil []),(V.lst 58 .nil []),(V.lst 108 .nil [])]),(V.agg 32 [(V.int .i64 0),(V.lst 4 .nil []),(V.lst 55 .nil []),(V.lst 58 .nil []),(V.lst 108 .nil [])])] (V.ref 2 [] 33) a15).bind fun a16=>UJ (V.ref 0 [] 33) (V.ref 1 [] 33) (V.ref 2 [] 33) (V.int .i64 0) a16 else none else none else none else none:=
 BF (KI<|AKX ⟨[(1,(V.ref 0 [] 33)),(2,(V.ref 1 [] 33))],[(V.weak t0),(V.agg 32 [(V.int .i64 0),(V.lst 4 .nil []),(V.lst 55 .nil []),(V.lst 58 .nil []),(V.lst 108 .nil [])])]⟩ (F:=fun r=>if((BK 32) (V.weak t0)&&V.under 0 (V.weak t0))=true then r else none) (by kernel_rfl))
theorem UK (t0 t1:V):Cl 20 [t0,t1] []=
 if((BK 32) (V.weak t0)&&V.under 0 (V.weak t0))=true then jn (fun a1=>
 V.ite a1
  (if(List.all [(V.int .i64 170),(V.str [])] V.okE)=true then AV 0 [(V.weak t0)] (V.tup [(V.str []),(V.int .i64 170)])else none)
  ((Cl 45 (AP []) [(V.weak t0)]).bind fun a2=>(Cl 46 (AP [a2.1,(V.int .u64 69)]) a2.2).bind fun a3=>(OW .u64 t1).bind fun a4=>(Cl 46 (AP [a2.1,a4]) a3.2).bind fun a5=>(Cl 50 (AP [a2.1]) a5.2).bind fun a6=>if(List.all [(V.int .i64 0),a6.1] V.okE)=true then AV 0 a6.2 (V.tup [a6.1,(V.int .i64 0)])else none)) (fun(a7:V→Rv)=>(AO .lss t1 (V.int .i64 0)).bind fun a8=>V.ite a8 (a7 (V.bool true)) ((fA 33 28 1 (V.ref 0 [] 33)).bind fun a9=>(BA [(V.weak t0)] 28 a9).bind fun a10=>(DK a10).bind fun a11=>(AO .geq t1 a11).bind fun a12=>V.ite a12 (a7 (V.bool true)) ((fA 33 28 1 (V.ref 0 [] 33)).bind fun a13=>(BA [(V.weak t0)] 28 a13).bind fun a14=>(Di 4 a14 t1).bind fun a15=>(Aa [(V.weak t0)] 4 a15).bind fun a16=>a7 a16)))else none:=
 BF (by kernel_rfl)
def Ob (t0 t3:V):Rv:=lp W 22 0 (cd 22 37) (bk 0 (sk 22 0 7 (lv 22 0))) ⟨[(0,t0),(3,t3)],[]⟩
def UL (t0 t3 t4:V) (m0:Nat):Rv:=lp W 22 2 (cd 22 2341) (bk 2 (bk 1 (sk 22 0 229 (lk 22 0 m0 37 (bk 0 (sk 22 0 7 (lv 22 0))))))) ⟨[(0,t0),(3,t3),(4,t4)],[]⟩
theorem LZ (t0 t3 t4:V) (m0:Nat):UL t0 t3 t4 m0=
 (Di 60 (V.weak t0) t3).bind fun a3=>(fA 60 58 4 a3).bind fun a4=>(BA [] 58 a4).bind fun a5=>(DK a5).bind fun a6=>(AO .lss t4 a6).bind fun a7=>V.ite a7
  ((Di 60 (V.weak t0) t3).bind fun a8=>(fA 60 58 4 a8).bind fun a9=>(BA [] 58 a9).bind fun a10=>(Di 9 a10 t4).bind fun a11=>(Aa [] 9 a11).bind fun a12=>(lnS a12).bind fun a13=>(AO .gtr a13 (V.int .i64 40)).bind fun a14=>V.ite a14
  (AV 0 [] (V.bool false))
  ((AO .add t4 (V.int .i64 1)).bind fun a15=>UL t0 t3 a15 m0))
  ((AO .add t3 (V.int .i64 1)).bind fun a16=>Ob t0 a16):=
 CX (by kernel_rfl)
theorem RU (t0 t3:V):Ob t0 t3=
 (DK (V.weak t0)).bind fun a1=>(AO .lss t3 a1).bind fun a2=>V.ite a2
  (UL t0 t3 (V.int .i64 0) 0)
  (AV 0 [] (V.bool true)):=
 CX (by kernel_rfl)
theorem AKh (t0:V):Cl 22 [t0] []=
 Ob t0 (V.int .i64 0):=
 BF (by kernel_rfl)
theorem La (t0 t1 t2 t3:V):Cl 23 [t0,t1,t2,t3] []=
 if((BK 23) (V.weak t0)&&V.under 0 (V.weak t0))=true then if((BK 25) t1&&V.under 1 t1)=true then if((BK 32) (V.weak t2)&&V.under 2 (V.weak t2))=true then(BA [(V.weak t0),t1,(V.weak t2),(V.agg 32 [(V.int .i64 0),(V.lst 4 .nil []),(V.lst 55 .nil []),(V.lst 58 .nil []),(V.lst 108 .nil [])])] 24 (V.ref 0 [] 24)).bind fun a1=>(Aa [(V.weak t0),t1,(V.weak t2),(V.agg 32 [(V.int .i64 0),(V.lst 4 .nil []),(V.lst 55 .nil []),(V.lst 58 .nil []),(V.lst 108 .nil [])])] 26 (V.ref 1 [] 26)).bind fun a2=>(fA 33 28 1 (V.ref 2 [] 33)).bind fun a3=>(BA [(V.weak t0),t1,(V.weak t2),(V.agg 32 [(V.int .i64 0),(V.lst 4 .nil []),(V.lst 55 .nil []),(V.lst 58 .nil []),(V.lst 108 .nil [])])] 28 a3).bind fun a4=>(DK a4).bind fun a5=>(Cl 10 (AL [(V.weak t0),t1,(V.weak t2),(V.agg 32 [(V.int .i64 0),(V.lst 4 .nil []),(V.lst 55 .nil []),(V.lst 58 .nil []),(V.lst 108 .nil [])])] [a1,a2,a5]) []).bind fun a6=>(FQ a6.1 0).bind fun a7=>(ext a6.1 1).bind fun a8=>(Cc (BK 32) 33 [(V.weak t0),t1,(V.weak t2),(V.agg 32 [(V.int .i64 0),(V.lst 4 .nil []),(V.lst 55 .nil []),(V.lst 58 .nil []),(V.lst 108 .nil [])]),(V.agg 32 [(V.int .i64 0),(V.lst 4 .nil []),(V.lst 55 .nil []),(V.lst 58 .nil []),(V.lst 108 .nil [])])] (V.ref 4 [] 33) a7).bind fun a9=>jn (fun a10=>
 V.ite a10
  (((ck [] [(V.int .i64 0),(V.lst 4 .nil []),(V.lst 55 .nil []),(V.lst 58 .nil []),(V.lst 108 .nil [])]).map (.agg 32)).bind fun a11=>(Cc (BK 32) 33 a9 (V.ref 3 [] 33) a11).bind fun a12=>(BA a12 33 (V.ref 3 [] 33)).bind fun a13=>if(List.all [(V.int .i64 171),a13] V.okE)=true then AV 0 a12 (V.tup [a13,(V.int .i64 171)])else none)
  ((Cl 54 (AP [t3]) a9).bind fun a14=>((ck [] [(V.int .i64 0),(V.lst 4 .nil []),(V.lst 55 .nil []),(V.lst 58 .nil []),(V.lst 108 .nil [])]).map (.agg 32)).bind fun a15=>(Cc (BK 32) 33 (a14.2++[(V.agg 32 [(V.int .i64 0),(V.lst 4 .nil []),(V.lst 55 .nil []),(V.lst 58 .nil []),(V.lst 108 .nil [])])]) (V.ref (List.length a14.2) [] 33) a15).bind fun a16=>(Cl 55 (AP [a14.1]) a16).bind fun a17=>(AO .eql a17.1 (V.int .u64 65)).bind fun a18=>V.ite a18
  ((Aa a17.2 26 (V.ref 1 [] 26)).bind fun a19=>(BA a17.2 33 (V.ref 2 [] 33)).bind fun a20=>(Cl 56 (AP [a19,a20,a14.1]) a17.2).bind fun a21=>(FQ a21.1 0).bind fun a22=>(ext a21.1 1).bind fun a23=>(Cc (BK 32) 33 a21.2 (V.ref (List.length a14.2) [] 33) a22).bind fun a24=>(un .not a23).bind fun a25=>V.ite a25
  (((ck [] [(V.int .i64 0),(V.lst 4 .nil []),(V.lst 55 .nil []),(V.lst 58 .nil []),(V.lst 108 .nil [])]).map (.agg 32)).bind fun a26=>(Cc (BK 32) 33 a24 (V.ref 3 [] 33) a26).bind fun a27=>(BA a27 33 (V.ref 3 [] 33)).bind fun a28=>if(List.all [(V.int .i64 171),a28] V.okE)=true then AV 0 a27 (V.tup [a28,(V.int .i64 171)])else none)
  ((BA a24 33 (V.ref (List.length a14.2) [] 33)).bind fun a29=>(Cc (BK 32) 33 a24 (V.ref 3 [] 33) a29).bind fun a30=>(BA a30 33 (V.ref 3 [] 33)).bind fun a31=>if(List.all [(V.int .i64 0),a31] V.okE)=true then AV 0 a30 (V.tup [a31,(V.int .i64 0)])else none))
  ((AO .eql a17.1 (V.int .u64 69)).bind fun a32=>V.ite a32
  ((BA a17.2 24 (V.ref 0 [] 24)).bind fun a33=>(Aa a17.2 26 (V.ref 1 [] 26)).bind fun a34=>(BA a17.2 33 (V.ref 2 [] 33)).bind fun a35=>(Cl 57 (AP [a33,a34,a35,a14.1]) a17.2).bind fun a36=>(FQ a36.1 0).bind fun a37=>(ext a36.1 1).bind fun a38=>(Cc (BK 32) 33 a36.2 (V.ref (List.length a14.2) [] 33) a37).bind fun a39=>(un .not a38).bind fun a40=>V.ite a40
  (((ck [] [(V.int .i64 0),(V.lst 4 .nil []),(V.lst 55 .nil []),(V.lst 58 .nil []),(V.lst 108 .nil [])]).map (.agg 32)).bind fun a41=>(Cc (BK 32) 33 a39 (V.ref 3 [] 33) a41).bind fun a42=>(BA a42 33 (V.ref 3 [] 33)).bind fun a43=>if(List.all [(V.int .i64 171),a43] V.okE)=true then AV 0 a42 (V.tup [a43,(V.int .i64 171)])else none)
  ((BA a39 33 (V.ref (List.length a14.2) [] 33)).bind fun a44=>(Cc (BK 32) 33 a39 (V.ref 3 [] 33) a44).bind fun a45=>(BA a45 33 (V.ref 3 [] 33)).bind fun a46=>if(List.all [(V.int .i64 0),a46] V.okE)=true then AV 0 a45 (V.tup [a46,(V.int .i64 0)])else none))
  ((un .not (V.bool false)).bind fun a47=>V.ite a47
  (((ck [] [(V.int .i64 0),(V.lst 4 .nil []),(V.lst 55 .nil []),(V.lst 58 .nil []),(V.lst 108 .nil [])]).map (.agg 32)).bind fun a48=>(Cc (BK 32) 33 a17.2 (V.ref 3 [] 33) a48).bind fun a49=>(BA a49 33 (V.ref 3 [] 33)).bind fun a50=>if(List.all [(V.int .i64 171),a50] V.okE)=true then AV 0 a49 (V.tup [a50,(V.int .i64 171)])else none)
  ((BA a17.2 33 (V.ref (List.length a14.2) [] 33)).bind fun a51=>(Cc (BK 32) 33 a17.2 (V.ref 3 [] 33) a51).bind fun a52=>(BA a52 33 (V.ref 3 [] 33)).bind fun a53=>if(List.all [(V.int .i64 0),a53] V.okE)=true then AV 0 a52 (V.tup [a53,(V.int .i64 0)])else none))))) (fun(a54:V→Rv)=>(AO .neq a8 (V.int .i64 0)).bind fun a55=>V.ite a55 (a54 (V.bool true)) ((fA 33 29 2 (V.ref 2 [] 33)).bind fun a56=>(BA a9 29 a56).bind fun a57=>(DK a57).bind fun a58=>(fA 33 28 1 (V.ref 2 [] 33)).bind fun a59=>(BA a9 28 a59).bind fun a60=>(DK a60).bind fun a61=>(AO .neq a58 a61).bind fun a62=>a54 a62))else none else none else none:=
 BF (by kernel_rfl)
def UM (t0 t1 t2 t7:V):Rv:=lp W 24 0 (cd 24 75) (bk 0 (sk 24 0 15 (lv 24 0))) ⟨[(0,t0),(1,t1),(2,t2),(7,t7)],[]⟩
theorem RV (t0 t1 t2 t7:V):UM t0 t1 t2 t7=
 (DK (V.weak t0)).bind fun a4=>(AO .lss t7 a4).bind fun a5=>V.ite a5
  (jn (fun a6=>
 V.ite a6
  (AV 0 [] (V.bool false))
  ((AO .add t7 (V.int .i64 1)).bind fun a7=>UM t0 t1 t2 a7)) (fun(a8:V→Rv)=>(Di 4 (V.weak t0) t7).bind fun a9=>(Aa [] 4 a9).bind fun a10=>(Di 4 (V.weak t1) t7).bind fun a11=>(Aa [] 4 a11).bind fun a12=>V.ite a12 ((NU tyB .neq a10 (V.bool true)).bind fun a13=>a8 a13) ((AO .eql t7 t2).bind fun a14=>(NU tyB .neq a10 a14).bind fun a15=>a8 a15)))
  (AV 0 [] (V.bool true)):=
 CX (by kernel_rfl)
theorem AKi (t0 t1 t2:V):Cl 24 [t0,t1,t2] []=
 (DK (V.weak t0)).bind fun a1=>(DK (V.weak t1)).bind fun a2=>(AO .neq a1 a2).bind fun a3=>V.ite a3
  (AV 0 [] (V.bool false))
  (UM t0 t1 t2 (V.int .i64 0)):=
 BF (by kernel_rfl)
def UN (t0 t1 t5:V):Rv:=lp W 25 0 (cd 25 75) (bk 0 (sk 25 0 15 (lv 25 0))) ⟨[(0,t0),(1,t1),(5,t5)],[]⟩
theorem RX (t0 t1 t5:V):UN t0 t1 t5=
 (DK (V.weak t0)).bind fun a4=>(AO .lss t5 a4).bind fun a5=>V.ite a5
  ((Di 9 (V.weak t0) t5).bind fun a6=>(Aa [] 9 a6).bind fun a7=>(Di 9 (V.weak t1) t5).bind fun a8=>(Aa [] 9 a8).bind fun a9=>(AO .neq a7 a9).bind fun a10=>V.ite a10
  (AV 0 [] (V.bool false))
  ((AO .add t5 (V.int .i64 1)).bind fun a11=>UN t0 t1 a11))
  (AV 0 [] (V.bool true)):=
 CX (by kernel_rfl)
theorem AKj (t0 t1:V):Cl 25 [t0,t1] []=
 (DK (V.weak t0)).bind fun a1=>(DK (V.weak t1)).bind fun a2=>(AO .neq a1 a2).bind fun a3=>V.ite a3
  (AV 0 [] (V.bool false))
  (UN t0 t1 (V.int .i64 0)):=
 BF (by kernel_rfl)
def Oc (t0 t3:V) (h:List V):Rv:=lp W 26 0 (cd 26 37) (bk 0 (sk 26 0 7 (lv 26 0))) ⟨[(0,t0),(3,t3)],h⟩
def UO (t0 t3 t4 t5:V) (m0:Nat) (h:List V):Rv:=lp W 26 2 (cd 26 10021) (bk 2 (bk 1 (sk 26 0 229 (lk 26 0 m0 37 (bk 0 (sk 26 0 7 (lv 26 0))))))) ⟨[(0,t0),(3,t3),(4,t4),(5,t5)],h⟩
theorem RY (t0 t3 t4 t5:V) (m0:Nat) (h:List V):UO t0 t3 t4 t5 m0 h=
 (AO .lss t5 t3).bind fun a7=>V.ite a7
  (jn (fun a8=>
 V.ite a8
  (AV 0 h (V.bool false))
  ((AO .add t5 (V.int .i64 1)).bind fun a9=>UO t0 t3 t4 a9 m0 h)) (fun(a10:V→Rv)=>(Di 108 (V.weak t0) t5).bind fun a11=>(fA 108 3 0 a11).bind fun a12=>(Aa h 3 a12).bind fun a13=>(fA 108 3 0 t4).bind fun a14=>(Aa h 3 a14).bind fun a15=>(AO .eql a13 a15).bind fun a16=>V.ite a16 ((Di 108 (V.weak t0) t5).bind fun a17=>(fA 108 3 1 a17).bind fun a18=>(Aa h 3 a18).bind fun a19=>(fA 108 3 1 t4).bind fun a20=>(Aa h 3 a20).bind fun a21=>(AO .eql a19 a21).bind fun a22=>a10 a22) (a10 (V.bool false))))
  ((AO .add t3 (V.int .i64 1)).bind fun a23=>if Ae m0 [t0,a23]=true then Oc t0 a23 (List.take m0 h)else none):=
 CX (by kernel_rfl)
theorem RZ (t0 t3:V) (h:List V):Oc t0 t3 h=
 (DK (V.weak t0)).bind fun a1=>(AO .lss t3 a1).bind fun a2=>V.ite a2
  ((Di 108 (V.weak t0) t3).bind fun a3=>(Aa h 108 a3).bind fun a4=>(Cc (BK 107) 108 (h++[(V.agg 107 [(V.int .i64 0),(V.int .i64 0),(V.int .i64 0)])]) (V.ref (List.length h) [] 108) a4).bind fun a5=>jn (fun a6=>
 V.ite a6
  (AV 0 a5 (V.bool false))
  (UO t0 t3 (V.ref (List.length h) [] 108) (V.int .i64 0) (List.length h) a5)) (fun(a24:V→Rv)=>(fA 108 3 0 (V.ref (List.length h) [] 108)).bind fun a25=>(Aa a5 3 a25).bind fun a26=>(AO .lss a26 (V.int .i64 0)).bind fun a27=>V.ite a27 (a24 (V.bool true)) ((fA 108 3 0 (V.ref (List.length h) [] 108)).bind fun a28=>(Aa a5 3 a28).bind fun a29=>(AO .gtr a29 (V.int .i64 63)).bind fun a30=>V.ite a30 (a24 (V.bool true)) ((fA 108 3 1 (V.ref (List.length h) [] 108)).bind fun a31=>(Aa a5 3 a31).bind fun a32=>(AO .lss a32 (V.int .i64 0)).bind fun a33=>V.ite a33 (a24 (V.bool true)) ((fA 108 3 1 (V.ref (List.length h) [] 108)).bind fun a34=>(Aa a5 3 a34).bind fun a35=>(AO .gtr a35 (V.int .i64 63)).bind fun a36=>V.ite a36 (a24 (V.bool true)) ((fA 108 2 2 (V.ref (List.length h) [] 108)).bind fun a37=>(Aa a5 2 a37).bind fun a38=>(Cl 58 (AL a5 [a38]) []).bind fun a39=>a24 a39.1))))))
  ((DK t0).bind fun a40=>(AO .leq a40 (V.int .i64 512)).bind fun a41=>AV 0 h a41):=
 CX (by kernel_rfl)
theorem AKk (t0:V):Cl 26 [t0] []=
 Oc t0 (V.int .i64 0) []:=
 BF (by kernel_rfl)
def UQ (t0 t3:V):Rv:=lp W 27 0 (cd 27 37) (bk 0 (sk 27 0 7 (lv 27 0))) ⟨[(0,t0),(3,t3)],[]⟩
theorem Lc (t0 t3:V):UQ t0 t3=
 (DK (V.weak t0)).bind fun a1=>(AO .lss t3 a1).bind fun a2=>V.ite a2
  ((Di 9 (V.weak t0) t3).bind fun a3=>(Aa [] 9 a3).bind fun a4=>(lnS a4).bind fun a5=>(AO .gtr a5 (V.int .i64 300)).bind fun a6=>V.ite a6
  (AV 0 [] (V.bool false))
  ((AO .add t3 (V.int .i64 1)).bind fun a7=>UQ t0 a7))
  ((DK t0).bind fun a8=>(AO .leq a8 (V.int .i64 12)).bind fun a9=>AV 0 [] a9):=
 CX (by kernel_rfl)
theorem AKl (t0:V):Cl 27 [t0] []=
 UQ t0 (V.int .i64 0):=
 BF (by kernel_rfl)
def YV (t3 t4 t5 t8 t11 t28 t29 t30:V) (h:List V):Rv:=lp W 28 0 (cd 28 151) (bk 0 (sk 28 0 31 (lv 28 0))) ⟨[(3,t3),(4,t4),(5,t5),(8,t8),(11,t11),(28,t28),(29,t29),(30,t30)],h⟩
theorem Ld (t3 t4 t5 t8 t11 t28 t29 t30:V) (h:List V):YV t3 t4 t5 t8 t11 t28 t29 t30 h=
 (AO .lss t30 t29).bind fun a12=>V.ite a12
  ((Di 9 t28 t30).bind fun a13=>(Aa h 9 a13).bind fun a14=>(BA h 24 t4).bind fun a15=>(Aa h 26 t5).bind fun a16=>(BA h 33 t11).bind fun a17=>(Cl 23 (AL h [a15,a16,a17,a14]) []).bind fun a18=>(FQ a18.1 0).bind fun a19=>(ext a18.1 1).bind fun a20=>(Cc (BK 32) 33 (h++[(V.agg 32 [(V.int .i64 0),(V.lst 4 .nil []),(V.lst 55 .nil []),(V.lst 58 .nil []),(V.lst 108 .nil [])])]) (V.ref (List.length h) [] 33) a19).bind fun a21=>(AO .neq a20 (V.int .i64 0)).bind fun a22=>V.ite a22
  ((BA a21 33 t11).bind fun a23=>(Cc (BK 32) 33 a21 t8 a23).bind fun a24=>(BA a24 33 t8).bind fun a25=>if(List.all [(V.int .i64 0),t30,a25] V.okE)=true then AV 0 a24 (V.tup [a25,t30,(V.int .i64 0)])else none)
  ((BA a21 33 (V.ref (List.length h) [] 33)).bind fun a26=>(Cc (BK 32) 33 a21 t11 a26).bind fun a27=>(AO .add t30 (V.int .i64 1)).bind fun a28=>if Ae (List.length h) [t3,t4,t5,t8,t11,t28,t29,a28]=true then YV t3 t4 t5 t8 t11 t28 t29 a28 (List.take (List.length h) a27)else none))
  ((BA h 33 t11).bind fun a29=>(DK t3).bind fun a30=>(Cc (BK 32) 33 h t8 a29).bind fun a31=>(BA a31 33 t8).bind fun a32=>if(List.all [(V.int .i64 0),a30,a32] V.okE)=true then AV 0 a31 (V.tup [a32,a30,(V.int .i64 0)])else none):=
 CX (by kernel_rfl)
theorem AKm (t0 t1 t2 t3:V):Cl 28 [t0,t1,t2,t3] []=
 if((BK 23) (V.weak t0)&&V.under 0 (V.weak t0))=true then if((BK 25) t1&&V.under 1 t1)=true then(BA [(V.weak t0),t1,(V.agg 32 [(V.int .i64 0),(V.lst 4 .nil []),(V.lst 55 .nil []),(V.lst 58 .nil []),(V.lst 108 .nil [])])] 24 (V.ref 0 [] 24)).bind fun a1=>(Aa [(V.weak t0),t1,(V.agg 32 [(V.int .i64 0),(V.lst 4 .nil []),(V.lst 55 .nil []),(V.lst 58 .nil []),(V.lst 108 .nil [])])] 26 (V.ref 1 [] 26)).bind fun a2=>(Cl 10 (AL [(V.weak t0),t1,(V.agg 32 [(V.int .i64 0),(V.lst 4 .nil []),(V.lst 55 .nil []),(V.lst 58 .nil []),(V.lst 108 .nil [])])] [a1,a2,t2]) []).bind fun a3=>(FQ a3.1 0).bind fun a4=>(ext a3.1 1).bind fun a5=>(Cc (BK 32) 33 [(V.weak t0),t1,(V.agg 32 [(V.int .i64 0),(V.lst 4 .nil []),(V.lst 55 .nil []),(V.lst 58 .nil []),(V.lst 108 .nil [])]),(V.agg 32 [(V.int .i64 0),(V.lst 4 .nil []),(V.lst 55 .nil []),(V.lst 58 .nil []),(V.lst 108 .nil [])])] (V.ref 3 [] 33) a4).bind fun a6=>(AO .neq a5 (V.int .i64 0)).bind fun a7=>V.ite a7
  (((ck [] [(V.int .i64 0),(V.lst 4 .nil []),(V.lst 55 .nil []),(V.lst 58 .nil []),(V.lst 108 .nil [])]).map (.agg 32)).bind fun a8=>(Cc (BK 32) 33 a6 (V.ref 2 [] 33) a8).bind fun a9=>(BA a9 33 (V.ref 2 [] 33)).bind fun a10=>if(List.all [a5,(V.int .i64 0),a10] V.okE)=true then AV 0 a9 (V.tup [a10,(V.int .i64 0),a5])else none)
  ((DK (V.weak t3)).bind fun a11=>YV t3 (V.ref 0 [] 24) (V.ref 1 [] 26) (V.ref 2 [] 33) (V.ref 3 [] 33) (V.weak t3) a11 (V.int .i64 0) a6)else none else none:=
 BF (by kernel_rfl)
theorem AKn (t0 t1:V):Cl 32 [t0,t1] []=
 if((BK 23) (V.weak t0)&&V.under 0 (V.weak t0))=true then if((BK 25) t1&&V.under 1 t1)=true then jn (fun a1=>
 V.ite a1
  (AV 0 [(V.weak t0),t1] (V.int .i64 70))
  (AV 0 [(V.weak t0),t1] (V.int .i64 0))) (fun(a2:V→Rv)=>(BA [(V.weak t0),t1] 24 (V.ref 0 [] 24)).bind fun a3=>(Cl 61 (AL [(V.weak t0),t1] [a3]) []).bind fun a4=>(AO .neq a4.1 (V.int .i64 0)).bind fun a5=>V.ite a5 (a2 (V.bool true)) ((fA 26 9 0 (V.ref 1 [] 26)).bind fun a6=>(Aa [(V.weak t0),t1] 9 a6).bind fun a7=>(Cl 62 (AL [(V.weak t0),t1] [a7]) []).bind fun a8=>(un .not a8.1).bind fun a9=>V.ite a9 (a2 (V.bool true)) ((fA 26 3 1 (V.ref 1 [] 26)).bind fun a10=>(Aa [(V.weak t0),t1] 3 a10).bind fun a11=>(AO .lss a11 (V.int .i64 0)).bind fun a12=>V.ite a12 (a2 (V.bool true)) ((fA 26 3 1 (V.ref 1 [] 26)).bind fun a13=>(Aa [(V.weak t0),t1] 3 a13).bind fun a14=>(fA 24 3 0 (V.ref 0 [] 24)).bind fun a15=>(Aa [(V.weak t0),t1] 3 a15).bind fun a16=>(AO .geq a14 a16).bind fun a17=>V.ite a17 (a2 (V.bool true)) ((fA 26 3 2 (V.ref 1 [] 26)).bind fun a18=>(Aa [(V.weak t0),t1] 3 a18).bind fun a19=>(AO .lss a19 (V.int .i64 1)).bind fun a20=>V.ite a20 (a2 (V.bool true)) ((fA 26 3 2 (V.ref 1 [] 26)).bind fun a21=>(Aa [(V.weak t0),t1] 3 a21).bind fun a22=>(AO .gtr a22 (V.int .i64 64)).bind fun a23=>a2 a23))))))else none else none:=
 BF (by kernel_rfl)
def Oe (t8 t9 t25 t26:V) (h:List V):Rv:=lp W 33 0 (cd 33 303) (bk 0 (sk 33 0 63 (lv 33 0))) ⟨[(8,t8),(9,t9),(25,t25),(26,t26)],h⟩
theorem Rf (t8 t9 t25 t26:V) (h:List V):Oe t8 t9 t25 t26 h=
 (AO .lss t26 t25).bind fun a3=>V.ite a3
  (CB P Dn W t8 [t26] h fun a4 a5=>if V.noOwn a4=true then V.ite a4
  ((LX 3 false (ck [(NZ .i64) t26] [t26])).bind fun a6=>(G6 3 (NZ .i64) false a5 t9 a6).bind fun a7=>(AO .add t26 (V.int .i64 1)).bind fun a8=>Oe t8 a7 t25 a8 a5)
  ((AO .add t26 (V.int .i64 1)).bind fun a9=>Oe t8 t9 t25 a9 a5)else none)
  (if(List.all [(V.int .i64 0),t9] V.okE)=true then AV 0 h (V.tup [t9,(V.int .i64 0)])else none):=
 CX (by kernel_rfl)
theorem AKo (t0 t1 t2:V):Cl 33 [t0,t1,t2] []=
 if((NZ .i64) t1&&V.under 0 t1)=true then if((NZ .i64) t2&&V.under 1 t2)=true then jn (fun a1=>
 V.ite a1
  (if(List.all [(V.int .i64 60),(V.weak (V.lst 3 .nil []))] V.okE)=true then AV 0 [t1,t2] (V.tup [(V.weak (V.lst 3 .nil [])),(V.int .i64 60)])else none)
  ((if(List.all [(V.ref 0 [] 3),(V.ref 1 [] 3)] V.capOk)=true then some (V.clo 64 [(V.ref 0 [] 3),(V.ref 1 [] 3)])else none).bind fun a2=>Oe a2 (V.weak (V.lst 3 .nil [])) t0 (V.int .i64 0) [t1,t2])) (fun(a10:V→Rv)=>(Aa [t1,t2] 3 (V.ref 0 [] 3)).bind fun a11=>(Cl 63 (AL [t1,t2] [t0,a11]) []).bind fun a12=>(un .not a12.1).bind fun a13=>V.ite a13 (a10 (V.bool true)) ((Aa [t1,t2] 3 (V.ref 1 [] 3)).bind fun a14=>(AO .lss a14 (V.int .i64 0)).bind fun a15=>V.ite a15 (a10 (V.bool true)) ((Aa [t1,t2] 3 (V.ref 1 [] 3)).bind fun a16=>(Aa [t1,t2] 3 (V.ref 0 [] 3)).bind fun a17=>(AO .geq a16 a17).bind fun a18=>a10 a18)))else none else none:=
 BF (by kernel_rfl)
theorem AKp (t0 t1:V):Cl 34 [t0,t1] []=
 if((BK 25) t0&&V.under 0 t0)=true then(fA 26 9 0 (V.ref 0 [] 26)).bind fun a1=>(Aa [t0,(V.agg 80 [(V.int .i64 0),(V.int .i64 0),(V.bool false),(V.bool false),(V.int .i64 0)])] 9 a1).bind fun a2=>(Cl 62 (AL [t0,(V.agg 80 [(V.int .i64 0),(V.int .i64 0),(V.bool false),(V.bool false),(V.int .i64 0)])] [a2]) []).bind fun a3=>(un .not a3.1).bind fun a4=>V.ite a4
  (((ck [] [(V.int .i64 0),(V.int .i64 0),(V.bool false),(V.bool false),(V.int .i64 0)]).map (.agg 80)).bind fun a5=>(Cc (BK 80) 81 [t0,(V.agg 80 [(V.int .i64 0),(V.int .i64 0),(V.bool false),(V.bool false),(V.int .i64 0)])] (V.ref 1 [] 81) a5).bind fun a6=>(Aa a6 81 (V.ref 1 [] 81)).bind fun a7=>AV 0 a6 a7)
  (((ck [(NZ .i64) t1,tyB (V.bool true)] [t1,(V.int .i64 0),(V.bool true),(V.bool false),(V.int .i64 0)]).map (.agg 80)).bind fun a8=>(Cc (BK 80) 81 [t0,(V.agg 80 [(V.int .i64 0),(V.int .i64 0),(V.bool false),(V.bool false),(V.int .i64 0)]),(V.agg 80 [(V.int .i64 0),(V.int .i64 0),(V.bool false),(V.bool false),(V.int .i64 0)])] (V.ref 2 [] 81) a8).bind fun a9=>(fA 26 9 0 (V.ref 0 [] 26)).bind fun a10=>(Aa a9 9 a10).bind fun a11=>(AO .eql a11 (V.str [109,97,120])).bind fun a12=>V.ite a12
  ((AO .mul (V.int .i64 37) t1).bind fun a13=>(AO .add a13 (V.int .i64 11)).bind fun a14=>(AO .rem a14 (V.int .i64 64)).bind fun a15=>(fA 81 2 1 (V.ref 2 [] 81)).bind fun a16=>(Cc (NZ .i64) 2 a9 a16 a15).bind fun a17=>(Aa a17 81 (V.ref 2 [] 81)).bind fun a18=>(Cc (BK 80) 81 a17 (V.ref 1 [] 81) a18).bind fun a19=>(Aa a19 81 (V.ref 1 [] 81)).bind fun a20=>AV 0 a19 a20)
  ((AO .eql a11 (V.str [108,97,98,101,108])).bind fun a21=>V.ite a21
  ((fA 81 2 1 (V.ref 2 [] 81)).bind fun a22=>(Cc (NZ .i64) 2 a9 a22 t1).bind fun a23=>(Aa a23 81 (V.ref 2 [] 81)).bind fun a24=>(Cc (BK 80) 81 a23 (V.ref 1 [] 81) a24).bind fun a25=>(Aa a25 81 (V.ref 1 [] 81)).bind fun a26=>AV 0 a25 a26)
  ((AO .eql a11 (V.str [98,102,115])).bind fun a27=>V.ite a27
  ((fA 26 3 1 (V.ref 0 [] 26)).bind fun a28=>(Aa a9 3 a28).bind fun a29=>(AO .neq t1 a29).bind fun a30=>V.ite a30
  ((fA 81 2 1 (V.ref 2 [] 81)).bind fun a31=>(Cc (NZ .i64) 2 a9 a31 (V.int .i64 (-1))).bind fun a32=>(Aa a32 81 (V.ref 2 [] 81)).bind fun a33=>(Cc (BK 80) 81 a32 (V.ref 1 [] 81) a33).bind fun a34=>(Aa a34 81 (V.ref 1 [] 81)).bind fun a35=>AV 0 a34 a35)
  ((Aa a9 81 (V.ref 2 [] 81)).bind fun a36=>(Cc (BK 80) 81 a9 (V.ref 1 [] 81) a36).bind fun a37=>(Aa a37 81 (V.ref 1 [] 81)).bind fun a38=>AV 0 a37 a38))
  ((AO .eql a11 (V.str [115,115,115,112])).bind fun a39=>V.ite a39
  ((fA 26 3 1 (V.ref 0 [] 26)).bind fun a40=>(Aa a9 3 a40).bind fun a41=>(AO .neq t1 a41).bind fun a42=>V.ite a42
  ((fA 81 2 1 (V.ref 2 [] 81)).bind fun a43=>(Cc (NZ .i64) 2 a9 a43 (V.int .i64 (-1))).bind fun a44=>(Aa a44 81 (V.ref 2 [] 81)).bind fun a45=>(Cc (BK 80) 81 a44 (V.ref 1 [] 81) a45).bind fun a46=>(Aa a46 81 (V.ref 1 [] 81)).bind fun a47=>AV 0 a46 a47)
  ((Aa a9 81 (V.ref 2 [] 81)).bind fun a48=>(Cc (BK 80) 81 a9 (V.ref 1 [] 81) a48).bind fun a49=>(Aa a49 81 (V.ref 1 [] 81)).bind fun a50=>AV 0 a49 a50))
  ((AO .eql a11 (V.str [114,97,110,107])).bind fun a51=>V.ite a51
  ((fA 81 2 1 (V.ref 2 [] 81)).bind fun a52=>(Cc (NZ .i64) 2 a9 a52 (V.int .i64 65536)).bind fun a53=>(Aa a53 81 (V.ref 2 [] 81)).bind fun a54=>(Cc (BK 80) 81 a53 (V.ref 1 [] 81) a54).bind fun a55=>(Aa a55 81 (V.ref 1 [] 81)).bind fun a56=>AV 0 a55 a56)
  ((AO .eql a11 (V.str [119,97,108,107,115])).bind fun a57=>V.ite a57
  ((fA 81 2 1 (V.ref 2 [] 81)).bind fun a58=>(Cc (NZ .i64) 2 a9 a58 (V.int .i64 1)).bind fun a59=>(Aa a59 81 (V.ref 2 [] 81)).bind fun a60=>(Cc (BK 80) 81 a59 (V.ref 1 [] 81) a60).bind fun a61=>(Aa a61 81 (V.ref 1 [] 81)).bind fun a62=>AV 0 a61 a62)
  ((Aa a9 81 (V.ref 2 [] 81)).bind fun a63=>(Cc (BK 80) 81 a9 (V.ref 1 [] 81) a63).bind fun a64=>(Aa a64 81 (V.ref 1 [] 81)).bind fun a65=>AV 0 a64 a65)))))))else none:=
 BF (by kernel_rfl)
theorem AKq (t0:V):Cl 35 [t0] []=
 (Cl 36 (AL [(V.agg 54 (List.replicate 32 (V.int .u8 0)))] [t0]) []).bind fun a1=>(Cl 66 (AL [(V.agg 54 (List.replicate 32 (V.int .u8 0)))] [a1.1]) []).bind fun a2=>(Cc (BK 54) 55 [(V.agg 54 (List.replicate 32 (V.int .u8 0)))] (V.ref 0 [] 55) a2.1).bind fun a3=>(Aa a3 55 (V.ref 0 [] 55)).bind fun a4=>AV 0 a3 a4:=
 BF (by kernel_rfl)
def UR (t3 t9 t10 t11:V) (h:List V):Rv:=lp W 36 0 (cd 36 75) (bk 0 (sk 36 0 15 (lv 36 0))) ⟨[(3,t3),(9,t9),(10,t10),(11,t11)],h⟩
theorem Rh (t3 t9 t10 t11:V) (h:List V):UR t3 t9 t10 t11 h=
 (AO .lss t11 t10).bind fun a5=>V.ite a5
  ((Di 81 t9 t11).bind fun a6=>(Aa h 81 a6).bind fun a7=>(Cc (BK 80) 81 (h++[(V.agg 80 [(V.int .i64 0),(V.int .i64 0),(V.bool false),(V.bool false),(V.int .i64 0)])]) (V.ref (List.length h) [] 81) a7).bind fun a8=>(Aa a8 81 (V.ref (List.length h) [] 81)).bind fun a9=>(Cl 67 (AL a8 [a9]) []).bind fun a10=>(Di 9 (V.weak t3) t11).bind fun a11=>(Cc tyS 9 a8 a11 a10.1).bind fun a12=>(AO .add t11 (V.int .i64 1)).bind fun a13=>if Ae (List.length h) [t3,t9,t10,a13]=true then UR t3 t9 t10 a13 (List.take (List.length h) a12)else none)
  (AV 0 h t3):=
 CX (by kernel_rfl)
theorem AKr (t0:V):Cl 36 [t0] []=
 (DK (V.weak t0)).bind fun a1=>(mkL 9 (V.str []) a1 a1).bind fun a2=>(Dz [] a2).bind fun a3=>(DK t0).bind fun a4=>UR a3.1 t0 a4 (V.int .i64 0) a3.2:=
 BF (by kernel_rfl)
theorem AKs (t0 t1:V):Cl 37 [t0,t1] []=
 if((BK 23) (V.weak t0)&&V.under 0 (V.weak t0))=true then if((BK 25) t1&&V.under 1 t1)=true then jn (fun a1=>
 AV 0 [(V.weak t0),t1] a1) (fun(a2:V→Rv)=>(BA [(V.weak t0),t1] 24 (V.ref 0 [] 24)).bind fun a3=>(Cl 68 (AL [(V.weak t0),t1] [a3]) []).bind fun a4=>(AO .eql a4.1 (V.int .i64 0)).bind fun a5=>V.ite a5 ((fA 26 9 0 (V.ref 1 [] 26)).bind fun a6=>(Aa [(V.weak t0),t1] 9 a6).bind fun a7=>(Cl 69 (AL [(V.weak t0),t1] [a7]) []).bind fun a8=>V.ite a8.1 ((fA 26 3 1 (V.ref 1 [] 26)).bind fun a9=>(Aa [(V.weak t0),t1] 3 a9).bind fun a10=>(AO .geq a10 (V.int .i64 0)).bind fun a11=>V.ite a11 ((fA 26 3 1 (V.ref 1 [] 26)).bind fun a12=>(Aa [(V.weak t0),t1] 3 a12).bind fun a13=>(fA 24 3 0 (V.ref 0 [] 24)).bind fun a14=>(Aa [(V.weak t0),t1] 3 a14).bind fun a15=>(AO .lss a13 a15).bind fun a16=>V.ite a16 ((fA 26 3 2 (V.ref 1 [] 26)).bind fun a17=>(Aa [(V.weak t0),t1] 3 a17).bind fun a18=>(AO .geq a18 (V.int .i64 1)).bind fun a19=>V.ite a19 ((fA 26 3 2 (V.ref 1 [] 26)).bind fun a20=>(Aa [(V.weak t0),t1] 3 a20).bind fun a21=>(AO .leq a21 (V.int .i64 64)).bind fun a22=>a2 a22) (a2 (V.bool false))) (a2 (V.bool false))) (a2 (V.bool false))) (a2 (V.bool false))) (a2 (V.bool false)))else none else none:=
 BF (by kernel_rfl)
theorem AKt (t0:V):Cl 43 [t0] []=
 if((BK 59) (V.weak t0)&&V.under 0 (V.weak t0))=true then(fA 60 34 0 (V.ref 0 [] 60)).bind fun a1=>(Aa [(V.weak t0)] 34 a1).bind fun a2=>(AO .neq a2 (V.int .i64 0)).bind fun a3=>AV 0 [(V.weak t0)] a3 else none:=
 BF (by kernel_rfl)
theorem AKu (t0 t1:V) (h:List V):Cl 44 [t0,t1] h=
 (Cl 73 (AP [t0,t1]) h).bind fun a1=>(AO .geq a1.1 (V.int .i64 0)).bind fun a2=>AV (List.length h) a1.2 a2:=
 BF (by kernel_rfl)
def ADk (k:Rv):Rv:=
 k
def ADl (h:List V) (k:V→List V→Rv):Rv:=
 (YO P 125 []).bind fun t1=>if(BN P 125 (V.weak t1)&&V.under (List.length h) (V.weak t1))=true then k (V.ref (List.length h) [] 125) (h++[(V.weak t1)])else none
theorem AKv (h:List V):Cl 45 [] h=
 ADk (ADl h fun a1 a2=>
  Vl a2 a1):=
 BF (by kernel_rfl)
def UU (t0 t1:V) (n:Nat) (h:List V):Rv:=lp W 46 0 (cd 46 8) (bk 0 (sk 46 0 3 (lv 46 n))) ⟨[(0,t0),(1,t1)],h⟩
def ADm (t1:V) (k:V→Rv):Rv:=
 (AO .geq t1 (V.int .u64 128)).bind fun t5=>k t5
def ADn (t0 t1:V) (h:List V) (k:List V→Rv):Rv:=
 (Bj t0).bind fun t10=>(A7 P 125 0 t10).bind fun t11=>(Bd h 68 t11).bind fun r=>(conv P r.2 93 5 t1).bind fun t14=>(AO .or t14 (V.int .u8 128)).bind fun t15=>(Ew P 68 1 [(0,t15)]).bind fun t16=>(EK P 68 r.2 r.1 t16).bind fun t17=>(Bj t0).bind fun t18=>(A7 P 125 0 t18).bind fun t19=>(Ec P r.2 68 t19 t17).bind fun a1=>k a1
def ADo (t1:V) (k:V→Rv):Rv:=
 (AO .shr t1 (V.int .u64 7)).bind fun t7=>k t7
def ADp (t0 t1:V) (h:List V) (k:List V→Rv):Rv:=
 (Bj t0).bind fun t22=>(A7 P 125 0 t22).bind fun t23=>(Bd h 68 t23).bind fun r=>(conv P r.2 93 5 t1).bind fun t26=>(Ew P 68 1 [(0,t26)]).bind fun t27=>(EK P 68 r.2 r.1 t27).bind fun t28=>(Bj t0).bind fun t29=>(A7 P 125 0 t29).bind fun t30=>(Ec P r.2 68 t30 t28).bind fun a1=>k a1
theorem ACD (t0 t1:V) (n:Nat) (h:List V):UU t0 t1 n h=
 ADm t1 fun a1=>
  V.ite a1
  (ADn t0 t1 h fun a2=>
  ADo t1 fun a3=>
  UU t0 a3 n a2)
  (ADp t0 t1 h fun a4=>
  if(List.all [] V.okE)=true then AV n a4 (V.tup [])else none):=
 CX (by kernel_rfl)
theorem AKw (t0 t1:V) (h:List V):Cl 46 [t0,t1] h=
 UU t0 t1 (List.length h) h:=
 BF (by kernel_rfl)
theorem AKx (t0 t1:V) (h:List V):Cl 47 [t0,t1] h=
 if((BK 54) t1&&V.under (List.length h) t1)=true then(Bj t0).bind fun a1=>(fA 125 68 0 a1).bind fun a2=>(Bd (h++[t1]) 68 a2).bind fun a3=>(slA 55 54 32 5 (V.ref (List.length h) [] 55) none none none).bind fun a4=>(G6 5 (NZ .u8) false a3.2 a3.1 a4).bind fun a5=>(Bj t0).bind fun a6=>(fA 125 68 0 a6).bind fun a7=>(Cc (JS 5) 68 a3.2 a7 a5).bind fun a8=>if(List.all [] V.okE)=true then AV (List.length h) a8 (V.tup [])else none else none:=
 BF (by kernel_rfl)
def ADq (t0 t1:V) (h:List V) (k:List V→Rv):Rv:=
 (lenV P 9 t1).bind fun t6=>(conv P h 3 93 t6).bind fun t7=>(Cl 46 (AP [t0,t7]) h).bind fun r=>k r.2
def ADr (t0 t1:V) (h:List V) (k:List V→Rv):Rv:=
 (Bj t0).bind fun t11=>(A7 P 125 0 t11).bind fun t12=>(Bd h 68 t12).bind fun r=>(EK P 68 r.2 r.1 t1).bind fun t15=>(Bj t0).bind fun t16=>(A7 P 125 0 t16).bind fun t17=>(Ec P r.2 68 t17 t15).bind fun a1=>k a1
theorem AKy (t0 t1:V) (h:List V):Cl 48 [t0,t1] h=
 ADq t0 t1 h fun a1=>
  ADr t0 t1 a1 fun a2=>
  if(List.all [] V.okE)=true then AV (List.length h) a2 (V.tup [])else none:=
 BF (by kernel_rfl)
def ADs (k:Rv):Rv:=
 k
def ADt (t0:V) (h:List V) (k:V→Rv):Rv:=
 (Cl 74 (AL h [(V.weak t0)]) []).bind fun r=>k r.1
def ADu (t4:V) (k:V→Rv):Rv:=
 (AO .neq t4 (V.int .i64 0)).bind fun t11=>k t11
def ADv (t4:V) (k:V→V→Rv):Rv:=
 k (V.str []) t4
def ADw (h:List V) (k:V→List V→Rv):Rv:=
 (Cl 45 (AP []) h).bind fun r=>k r.1 r.2
def ADx (t0 t5:V) (h:List V) (k:List V→Rv):Rv:=
 (lenV P 31 (V.weak t0)).bind fun t16=>(conv P h 3 93 t16).bind fun t17=>(Cl 46 (AP [t5,t17]) h).bind fun r=>k r.2
def ADy (t0:V) (h:List V) (k:V→V→V→Rv):Rv:=
 (Cl 75 (AL h [t0]) []).bind fun r=>(lenV P 58 r.1).bind fun t21=>k r.1 t21 (V.int .i64 0)
def UW (t5 t20 t21 t22:V) (h:List V):Rv:=lp W 49 0 (cd 49 303) (bk 0 (sk 49 0 63 (lv 49 0))) ⟨[(5,t5),(20,t20),(21,t21),(22,t22)],h⟩
def YW (t21 t22:V) (k:V→Rv):Rv:=
 (AO .lss t22 t21).bind fun t23=>k t23
def ADz (t20 t22:V) (h:List V) (k:V→Rv):Rv:=
 (Ag P 58 t20 t22).bind fun t24=>(Aa h 9 t24).bind fun t25=>k t25
def AD0 (t5 t7:V) (h:List V) (k:List V→Rv):Rv:=
 (Cl 48 (AP [t5,t7]) h).bind fun r=>k r.2
def Zl (t22:V) (k:V→Rv):Rv:=
 (AO .add t22 (V.int .i64 1)).bind fun t29=>k t29
def Zm (t5:V) (h:List V) (k:V→V→List V→Rv):Rv:=
 (Cl 50 (AP [t5]) h).bind fun r=>k r.1 (V.int .i64 0) r.2
theorem Ri (t5 t20 t21 t22:V) (h:List V):UW t5 t20 t21 t22 h=
 YW t21 t22 fun a11=>
  V.ite a11
  (ADz t20 t22 h fun a12=>
  AD0 t5 a12 h fun a13=>
  Zl t22 fun a14=>
  UW t5 t20 t21 a14 a13)
  (Zm t5 h fun a15 a16 a17=>
  if(List.all [a16,a15] V.okE)=true then AV 0 a17 (V.tup [a15,a16])else none):=
 CX (by kernel_rfl)
theorem AKz (t0:V):Cl 49 [t0] []=
 ADs (ADt t0 [] fun a1=>
  ADu a1 fun a2=>
  V.ite a2
  (ADv a1 fun a3 a4=>
  if(List.all [a4,a3] V.okE)=true then AV 0 [] (V.tup [a3,a4])else none)
  (ADw [] fun a5 a6=>
  ADx t0 a5 a6 fun a7=>
  ADy t0 a7 fun a8 a9 a10=>
  UW a5 a8 a9 a10 a7)):=
 BF (by kernel_rfl)
def AD1 (k:Rv):Rv:=
 k
def AD2 (t0:V) (h:List V) (k:V→Rv):Rv:=
 (Bj t0).bind fun t4=>(A7 P 125 0 t4).bind fun t5=>(BA h 68 t5).bind fun t6=>(conv P h 68 9 t6).bind fun t7=>k t7
theorem AK0 (t0:V) (h:List V):Cl 50 [t0] h=
 AD1 (AD2 t0 h fun a1=>
  AV (List.length h) h a1):=
 BF (by kernel_rfl)
def AD3 (k:Rv):Rv:=
 k
def AD4 (t0:V) (h:List V) (k:V→List V→Rv):Rv:=
 (YO P 130 [(0,t0)]).bind fun t4=>if(BN P 130 t4&&V.under (List.length h) t4)=true then k (V.ref (List.length h) [] 130) (h++[t4])else none
theorem AK1 (t0:V) (h:List V):Cl 54 [t0] h=
 AD3 (AD4 t0 h fun a1 a2=>
  Vl a2 a1):=
 BF (by kernel_rfl)
def AD5 (k:Rv):Rv:=
 k
def AD6 (h:List V) (k:V→List V→Rv):Rv:=
 (Ec P (h++[zero P 93]) 93 (V.ref (List.length h) [] 93) (V.int .u64 0)).bind fun a1=>k (V.ref (List.length h) [] 93) a1
def AD7 (t0 t3:V) (h:List V) (k:List V→Rv):Rv:=
 (if(List.all [t3] V.capOk)=true then some (V.clo 78 [t3])else none).bind fun t5=>(Cl 77 (AP [t0,t5]) h).bind fun r=>k r.2
def AD8 (t3:V) (h:List V) (k:V→Rv):Rv:=
 (Aa h 93 t3).bind fun t7=>k t7
theorem AK2 (t0:V) (h:List V):Cl 55 [t0] h=
 AD5 (AD6 h fun a1 a2=>
  AD7 t0 a1 a2 fun a3=>
  AD8 a1 a3 fun a4=>
  AV (List.length h) a3 a4):=
 BF (by kernel_rfl)
def UX (t5 t6 t9 t10 t44 t45:V) (n:Nat) (h:List V):Rv:=lp W 56 0 (cd 56 303) (bk 0 (sk 56 0 63 (lv 56 n))) ⟨[(5,t5),(6,t6),(9,t9),(10,t10),(44,t44),(45,t45)],h⟩
theorem Rj (t5 t6 t9 t10 t44 t45:V) (n:Nat) (h:List V):UX t5 t6 t9 t10 t44 t45 n h=
 (AO .lss t45 t44).bind fun a19=>V.ite a19
  (if(MP t9 t5&&true)=true then(fA 33 29 2 t9).bind fun a20=>if Ey t9 a20=true then(Bd h 29 a20).bind fun a21=>if Ey t5 t5=true then(Aa a21.2 101 t5).bind fun a22=>CU P Dn W (some t9) (V.clo 84 []) [a22] a21.2 fun a23 a24=>(LX 55 false (ck [(BK 54) a23] [a23])).bind fun a25=>(G6 55 (BK 54) false a24 a21.1 a25).bind fun a26=>(fA 33 29 2 t9).bind fun a27=>(Cc (JS 55) 29 a24 a27 a26).bind fun a28=>CB P Dn W t10 [] a28 fun a29 a30=>if V.noOwn a29=true then(IA .eql (V.weak a29) (V.lst 9 .nil [])).bind fun a31=>V.ite a31
  (((ck [] [(V.int .i64 0),(V.lst 4 .nil []),(V.lst 55 .nil []),(V.lst 58 .nil []),(V.lst 108 .nil [])]).map (.agg 32)).bind fun a32=>(Cc (BK 32) 33 a30 t6 a32).bind fun a33=>(BA a33 33 t6).bind fun a34=>if(List.all [(V.bool false),a34] V.okE)=true then AV n a33 (V.tup [a34,(V.bool false)])else none)
  ((fA 33 30 3 t9).bind fun a35=>(Bd a30 30 a35).bind fun a36=>(LX 58 true (ck [(JS 9) a29] [(V.weak a29)])).bind fun a37=>(G6 58 (JS 9) true a36.2 a36.1 a37).bind fun a38=>(fA 33 30 3 t9).bind fun a39=>(Cc (JS 58) 30 a36.2 a39 a38).bind fun a40=>(AO .add t45 (V.int .i64 1)).bind fun a41=>UX t5 t6 t9 t10 t44 a41 n a40)else none else none else none else none)
  ((Aa h 101 t5).bind fun a42=>(Cl 83 (AP [a42,(V.int .i64 65536)]) h).bind fun a43=>(Cl 85 (AL a43.2 [a43.1]) []).bind fun a44=>(FQ a44.1 0).bind fun a45=>(ext a44.1 1).bind fun a46=>(fA 33 31 4 t9).bind fun a47=>(Cc (JS 108) 31 a43.2 a47 a45).bind fun a48=>jn (fun a49 a50=>
 (BA a50 33 t6).bind fun a51=>if(List.all [a49,a51] V.okE)=true then AV n a50 (V.tup [a51,a49])else none) (fun(a52:V→List V→Rv)=>if Ey t9 t9=true then(BA a48 33 t9).bind fun a53=>(AO .eql a46 (V.int .i64 0)).bind fun a54=>V.ite a54 ((Aa a48 101 t5).bind fun a55=>CU P Dn W (some t9) (V.clo 86 []) [a55] a48 fun a56 a57=>(AO .eql a56 (V.int .i64 0)).bind fun a58=>(Cc (BK 32) 33 a57 t6 a53).bind fun a59=>a52 a58 a59) ((Cc (BK 32) 33 a48 t6 a53).bind fun a60=>a52 (V.bool false) a60)else none)):=
 CX (by kernel_rfl)
theorem AD9 (t0 t1 t2:V) (h:List V):Cl 56 [t0,t1,t2] h=
 if((BK 25) t0&&V.under (List.length h) t0)=true then if((BK 32) (V.weak t1)&&V.under (List.length (h++[t0])) (V.weak t1))=true then if(tyP t2&&V.under (List.length ((h++[t0])++[(V.weak t1)])) t2)=true then(Aa ((((h++[t0])++[(V.weak t1)])++[t2])++[(V.agg 32 [(V.int .i64 0),(V.lst 4 .nil []),(V.lst 55 .nil []),(V.lst 58 .nil []),(V.lst 108 .nil [])])]) 101 (V.ref (List.length ((h++[t0])++[(V.weak t1)])) [] 101)).bind fun a1=>(Cl 55 (AP [a1]) ((((h++[t0])++[(V.weak t1)])++[t2])++[(V.agg 32 [(V.int .i64 0),(V.lst 4 .nil []),(V.lst 55 .nil []),(V.lst 58 .nil []),(V.lst 108 .nil [])])])).bind fun a2=>jn (fun a3=>
 V.ite a3
  (((ck [] [(V.int .i64 0),(V.lst 4 .nil []),(V.lst 55 .nil []),(V.lst 58 .nil []),(V.lst 108 .nil [])]).map (.agg 32)).bind fun a4=>(Cc (BK 32) 33 a2.2 (V.ref (List.length (((h++[t0])++[(V.weak t1)])++[t2])) [] 33) a4).bind fun a5=>(BA a5 33 (V.ref (List.length (((h++[t0])++[(V.weak t1)])++[t2])) [] 33)).bind fun a6=>if(List.all [(V.bool false),a6] V.okE)=true then AV (List.length h) a5 (V.tup [a6,(V.bool false)])else none)
  ((fA 33 3 0 (V.ref (List.length (h++[t0])) [] 33)).bind fun a7=>(Aa a2.2 3 a7).bind fun a8=>(AO .add a8 (V.int .i64 1)).bind fun a9=>(fA 33 28 1 (V.ref (List.length (h++[t0])) [] 33)).bind fun a10=>(BA a2.2 28 a10).bind fun a11=>if Dq true [a11]=true then(Cl 80 (AL a2.2 [a11]) []).bind fun a12=>((ck [(NZ .i64) a9,(JS 4) a12.1] [a9,(V.weak a12.1),(V.lst 55 .nil []),(V.lst 58 .nil []),(V.lst 108 .nil [])]).map (.agg 32)).bind fun a13=>(Cc (BK 32) 33 (a2.2++[(V.agg 32 [(V.int .i64 0),(V.lst 4 .nil []),(V.lst 55 .nil []),(V.lst 58 .nil []),(V.lst 108 .nil [])])]) (V.ref (List.length a2.2) [] 33) a13).bind fun a14=>(if(List.all [(V.ref (List.length ((h++[t0])++[(V.weak t1)])) [] 101)] V.capOk)=true then some (V.clo 81 [(V.ref (List.length ((h++[t0])++[(V.weak t1)])) [] 101)])else none).bind fun a15=>(fA 33 29 2 (V.ref (List.length (h++[t0])) [] 33)).bind fun a16=>(BA a14 29 a16).bind fun a17=>(DK a17).bind fun a18=>UX (V.ref (List.length ((h++[t0])++[(V.weak t1)])) [] 101) (V.ref (List.length (((h++[t0])++[(V.weak t1)])++[t2])) [] 33) (V.ref (List.length a2.2) [] 33) a15 a18 (V.int .i64 0) (List.length h) a14 else none)) (fun(a61:V→Rv)=>(fA 33 3 0 (V.ref (List.length (h++[t0])) [] 33)).bind fun a62=>(Aa a2.2 3 a62).bind fun a63=>(AO .lss a63 (V.int .i64 0)).bind fun a64=>V.ite a64 (a61 (V.bool true)) ((fA 33 3 0 (V.ref (List.length (h++[t0])) [] 33)).bind fun a65=>(Aa a2.2 3 a65).bind fun a66=>(OW .u64 a66).bind fun a67=>(AO .neq a2.1 a67).bind fun a68=>V.ite a68 (a61 (V.bool true)) ((fA 33 3 0 (V.ref (List.length (h++[t0])) [] 33)).bind fun a69=>(Aa a2.2 3 a69).bind fun a70=>(fA 26 3 2 (V.ref (List.length h) [] 26)).bind fun a71=>(Aa a2.2 3 a71).bind fun a72=>(AO .geq a70 a72).bind fun a73=>a61 a73)))else none else none else none:=
 BF (by kernel_rfl)
theorem AK3 (t0:V):Cl 58 [t0] []=
 jn (fun a1=>
 AV 0 [] a1) (fun(a2:V→Rv)=>(AO .gtr t0 (V.int .i64 1125899906842624)).bind fun a3=>V.ite a3 (a2 (V.bool true)) ((AO .lss t0 (V.int .i64 (-1125899906842624))).bind fun a4=>a2 a4)):=
 BF (by kernel_rfl)
def Og (t4 t5:V) (h:List V):Rv:=lp W 61 0 (cd 61 303) (bk 0 (sk 61 0 63 (lv 61 0))) ⟨[(4,t4),(5,t5)],h⟩
theorem Le (t4 t5:V) (h:List V):Og t4 t5 h=
 (DK (V.weak t4)).bind fun a8=>(AO .lss t5 a8).bind fun a9=>V.ite a9
  ((AO .sub t5 (V.int .i64 1)).bind fun a10=>(Di 112 (V.weak t4) a10).bind fun a11=>(Aa h 112 a11).bind fun a12=>(Di 112 (V.weak t4) t5).bind fun a13=>(Aa h 112 a13).bind fun a14=>(Cl 91 (AL h [a12,a14]) []).bind fun a15=>(AO .eql a15.1 (V.int .i64 0)).bind fun a16=>V.ite a16
  (AV 0 h (V.int .i64 51))
  ((AO .add t5 (V.int .i64 1)).bind fun a17=>Og t4 a17 h))
  (AV 0 h (V.int .i64 0)):=
 CX (by kernel_rfl)
theorem Oh (t0:V):Cl 61 [t0] []=
 if((BK 23) (V.weak t0)&&V.under 0 (V.weak t0))=true then(if(List.all [(V.ref 0 [] 24)] V.capOk)=true then some (V.clo 87 [(V.ref 0 [] 24)])else none).bind fun a1=>jn (fun a2 a3=>
 V.ite a2
  (AV 0 a3 (V.int .i64 50))
  ((fA 24 22 1 (V.ref 0 [] 24)).bind fun a4=>(BA a3 22 a4).bind fun a5=>(Cl 90 (AP [a5]) a3).bind fun a6=>(Cl 89 (AP [a6.1,(V.clo 91 [])]) a6.2).bind fun a7=>Og a7.1 (V.int .i64 1) a7.2)) (fun(a18:V→List V→Rv)=>(fA 24 3 0 (V.ref 0 [] 24)).bind fun a19=>(Aa [(V.weak t0)] 3 a19).bind fun a20=>(AO .lss a20 (V.int .i64 1)).bind fun a21=>V.ite a21 (a18 (V.bool true) [(V.weak t0)]) ((fA 24 3 0 (V.ref 0 [] 24)).bind fun a22=>(Aa [(V.weak t0)] 3 a22).bind fun a23=>(AO .gtr a23 (V.int .i64 64)).bind fun a24=>V.ite a24 (a18 (V.bool true) [(V.weak t0)]) ((fA 24 22 1 (V.ref 0 [] 24)).bind fun a25=>(BA [(V.weak t0)] 22 a25).bind fun a26=>(DK a26).bind fun a27=>(AO .gtr a27 (V.int .i64 512)).bind fun a28=>V.ite a28 (a18 (V.bool true) [(V.weak t0)]) ((fA 24 22 1 (V.ref 0 [] 24)).bind fun a29=>(BA [(V.weak t0)] 22 a29).bind fun a30=>(Cl 88 (AP [a30,a1]) [(V.weak t0)]).bind fun a31=>a18 a31.1 a31.2))))else none:=
 BF (by kernel_rfl)
theorem AK4 (t0:V):Cl 62 [t0] []=
 (LX 9 false (ck [tyS (V.str [109,97,120]),tyS (V.str [108,97,98,101,108]),tyS (V.str [115,115,115,112]),tyS (V.str [98,102,115]),tyS (V.str [100,101,103,114,101,101]),tyS (V.str [114,97,110,107]),tyS (V.str [119,97,108,107,115])] [(V.str [109,97,120]),(V.str [108,97,98,101,108]),(V.str [115,115,115,112]),(V.str [98,102,115]),(V.str [100,101,103,114,101,101]),(V.str [114,97,110,107]),(V.str [119,97,108,107,115])])).bind fun a1=>(Cl 92 (AL [] [a1,t0]) []).bind fun a2=>AV 0 [] a2.1:=
 BF (by kernel_rfl)
theorem AK5 (t0 t1:V):Cl 63 [t0,t1] []=
 jn (fun a1=>
 AV 0 [] a1) (fun(a2:V→Rv)=>(AO .geq t0 (V.int .i64 1)).bind fun a3=>V.ite a3 ((AO .leq t0 (V.int .i64 64)).bind fun a4=>V.ite a4 ((AO .geq t1 (V.int .i64 1)).bind fun a5=>V.ite a5 ((AO .leq t1 (V.int .i64 64)).bind fun a6=>a2 a6) (a2 (V.bool false))) (a2 (V.bool false))) (a2 (V.bool false))):=
 BF (by kernel_rfl)
theorem AK6 (t0 t1 t2:V) (h:List V):Cl 64 [t0,t1,t2] h=
 (Aa h 3 t1).bind fun a1=>(Cl 65 (AL h [t0,a1]) []).bind fun a2=>(Aa h 3 t2).bind fun a3=>(AO .eql a2.1 a3).bind fun a4=>AV (List.length h) h a4:=
 BF (by kernel_rfl)
theorem AK7 (t0 t1:V):Cl 65 [t0,t1] []=
 jn (fun a1=>
 V.ite a1
  (AV 0 [] (V.int .i64 (-1)))
  ((OW .u32 t0).bind fun a2=>(Cl 93 (AL [] [a2]) []).bind fun a3=>(OW .u32 t1).bind fun a4=>(AO .rem a3.1 a4).bind fun a5=>(OW .i64 a5).bind fun a6=>AV 0 [] a6)) (fun(a7:V→Rv)=>(AO .lss t0 (V.int .i64 0)).bind fun a8=>V.ite a8 (a7 (V.bool true)) ((AO .lss t1 (V.int .i64 1)).bind fun a9=>V.ite a9 (a7 (V.bool true)) ((AO .gtr t1 (V.int .i64 64)).bind fun a10=>a7 a10))):=
 BF (by kernel_rfl)
theorem AK8 (t0:V):Cl 66 [t0] []=
 (DK (V.weak t0)).bind fun a1=>(Cl 95 (AL [(V.agg 54 (List.replicate 32 (V.int .u8 0)))] [t0]) []).bind fun a2=>(Cl 94 (AL [(V.agg 54 (List.replicate 32 (V.int .u8 0)))] [a1,a2.1]) []).bind fun a3=>(Cc (BK 54) 55 [(V.agg 54 (List.replicate 32 (V.int .u8 0)))] (V.ref 0 [] 55) a3.1).bind fun a4=>(Aa a4 55 (V.ref 0 [] 55)).bind fun a5=>AV 0 a4 a5:=
 BF (by kernel_rfl)
theorem AEA (t0:V):Cl 67 [t0] []=
 if((BK 80) t0&&V.under 0 t0)=true then(Aa [t0] 81 (V.ref 0 [] 81)).bind fun a1=>(Cl 96 (AL [t0] [a1]) []).bind fun a2=>(AO .neq a2.1 (V.int .i64 0)).bind fun a3=>V.ite a3
  (AV 0 [t0] (V.str []))
  ((Cl 45 (AP []) [t0]).bind fun a4=>(fA 81 3 0 (V.ref 0 [] 81)).bind fun a5=>(Aa a4.2 3 a5).bind fun a6=>(OW .u64 a6).bind fun a7=>(Cl 46 (AP [a4.1,a7]) a4.2).bind fun a8=>(fA 81 2 1 (V.ref 0 [] 81)).bind fun a9=>(Aa a8.2 2 a9).bind fun a10=>(Cl 97 (AP [a4.1,a10]) a8.2).bind fun a11=>(fA 81 4 2 (V.ref 0 [] 81)).bind fun a12=>(Aa a11.2 4 a12).bind fun a13=>(Cl 98 (AL a11.2 [a13]) []).bind fun a14=>(Cl 46 (AP [a4.1,a14.1]) a11.2).bind fun a15=>(fA 81 4 3 (V.ref 0 [] 81)).bind fun a16=>(Aa a15.2 4 a16).bind fun a17=>(Cl 98 (AL a15.2 [a17]) []).bind fun a18=>(Cl 46 (AP [a4.1,a18.1]) a15.2).bind fun a19=>(fA 81 2 4 (V.ref 0 [] 81)).bind fun a20=>(Aa a19.2 2 a20).bind fun a21=>(Cl 97 (AP [a4.1,a21]) a19.2).bind fun a22=>(Cl 50 (AP [a4.1]) a22.2).bind fun a23=>AV 0 a23.2 a23.1)else none:=
 BF (by kernel_rfl)
def Oi (t1 t3 t4:V) (h:List V):Rv:=lp W 68 0 (cd 68 151) (bk 0 (sk 68 0 31 (lv 68 0))) ⟨[(1,t1),(3,t3),(4,t4)],h⟩
def UY (t1 t3 t4 t5 t6:V) (m0:Nat) (h:List V):Rv:=lp W 68 2 (cd 68 40087) (bk 2 (bk 1 (sk 68 0 919 (lk 68 0 m0 151 (bk 0 (sk 68 0 31 (lv 68 0))))))) ⟨[(1,t1),(3,t3),(4,t4),(5,t5),(6,t6)],h⟩
theorem Rk (t1 t3 t4 t5 t6:V) (m0:Nat) (h:List V):UY t1 t3 t4 t5 t6 m0 h=
 (AO .lss t6 t4).bind fun a12=>V.ite a12
  (jn (fun a13=>
 (AO .add t6 (V.int .i64 1)).bind fun a14=>UY t1 a13 t4 t5 a14 m0 h) (fun(a15:V→Rv)=>V.ite t3 (a15 (V.bool true)) ((fA 24 22 1 t1).bind fun a16=>(BA h 22 a16).bind fun a17=>(Di 112 a17 t6).bind fun a18=>(fA 112 3 0 a18).bind fun a19=>(Aa h 3 a19).bind fun a20=>(fA 112 3 0 t5).bind fun a21=>(Aa h 3 a21).bind fun a22=>(AO .eql a20 a22).bind fun a23=>V.ite a23 ((fA 24 22 1 t1).bind fun a24=>(BA h 22 a24).bind fun a25=>(Di 112 a25 t6).bind fun a26=>(fA 112 3 1 a26).bind fun a27=>(Aa h 3 a27).bind fun a28=>(fA 112 3 1 t5).bind fun a29=>(Aa h 3 a29).bind fun a30=>(AO .eql a28 a30).bind fun a31=>a15 a31) (a15 (V.bool false)))))
  ((AO .add t4 (V.int .i64 1)).bind fun a32=>if Ae m0 [t1,t3,a32]=true then Oi t1 t3 a32 (List.take m0 h)else none):=
 CX (by kernel_rfl)
theorem Rl (t1 t3 t4:V) (h:List V):Oi t1 t3 t4 h=
 (fA 24 22 1 t1).bind fun a2=>(BA h 22 a2).bind fun a3=>(DK a3).bind fun a4=>(AO .lss t4 a4).bind fun a5=>V.ite a5
  ((fA 24 22 1 t1).bind fun a6=>(BA h 22 a6).bind fun a7=>(Di 112 a7 t4).bind fun a8=>(Aa h 112 a8).bind fun a9=>(Cc (BK 111) 112 (h++[(V.agg 111 [(V.int .i64 0),(V.int .i64 0),(V.int .i64 0)])]) (V.ref (List.length h) [] 112) a9).bind fun a10=>jn (fun a11=>
 V.ite a11
  (AV 0 a10 (V.int .i64 50))
  (UY t1 t3 t4 (V.ref (List.length h) [] 112) (V.int .i64 0) (List.length h) a10)) (fun(a33:V→Rv)=>(fA 112 3 0 (V.ref (List.length h) [] 112)).bind fun a34=>(Aa a10 3 a34).bind fun a35=>(AO .lss a35 (V.int .i64 0)).bind fun a36=>V.ite a36 (a33 (V.bool true)) ((fA 112 3 0 (V.ref (List.length h) [] 112)).bind fun a37=>(Aa a10 3 a37).bind fun a38=>(fA 24 3 0 t1).bind fun a39=>(Aa a10 3 a39).bind fun a40=>(AO .geq a38 a40).bind fun a41=>V.ite a41 (a33 (V.bool true)) ((fA 112 3 1 (V.ref (List.length h) [] 112)).bind fun a42=>(Aa a10 3 a42).bind fun a43=>(AO .lss a43 (V.int .i64 0)).bind fun a44=>V.ite a44 (a33 (V.bool true)) ((fA 112 3 1 (V.ref (List.length h) [] 112)).bind fun a45=>(Aa a10 3 a45).bind fun a46=>(fA 24 3 0 t1).bind fun a47=>(Aa a10 3 a47).bind fun a48=>(AO .geq a46 a48).bind fun a49=>V.ite a49 (a33 (V.bool true)) ((fA 112 2 2 (V.ref (List.length h) [] 112)).bind fun a50=>(Aa a10 2 a50).bind fun a51=>(AO .lss a51 (V.int .i64 0)).bind fun a52=>V.ite a52 (a33 (V.bool true)) ((fA 112 2 2 (V.ref (List.length h) [] 112)).bind fun a53=>(Aa a10 2 a53).bind fun a54=>(AO .gtr a54 (V.int .i64 1048576)).bind fun a55=>a33 a55)))))))
  (V.ite t3
  (AV 0 h (V.int .i64 51))
  (AV 0 h (V.int .i64 0))):=
 CX (by kernel_rfl)
theorem UZ (t0:V):Cl 68 [t0] []=
 if((BK 23) (V.weak t0)&&V.under 0 (V.weak t0))=true then jn (fun a1=>
 V.ite a1
  (AV 0 [(V.weak t0)] (V.int .i64 50))
  (Oi (V.ref 0 [] 24) (V.bool false) (V.int .i64 0) [(V.weak t0)])) (fun(a56:V→Rv)=>(fA 24 3 0 (V.ref 0 [] 24)).bind fun a57=>(Aa [(V.weak t0)] 3 a57).bind fun a58=>(AO .lss a58 (V.int .i64 1)).bind fun a59=>V.ite a59 (a56 (V.bool true)) ((fA 24 3 0 (V.ref 0 [] 24)).bind fun a60=>(Aa [(V.weak t0)] 3 a60).bind fun a61=>(AO .gtr a61 (V.int .i64 64)).bind fun a62=>V.ite a62 (a56 (V.bool true)) ((fA 24 22 1 (V.ref 0 [] 24)).bind fun a63=>(BA [(V.weak t0)] 22 a63).bind fun a64=>(DK a64).bind fun a65=>(AO .gtr a65 (V.int .i64 512)).bind fun a66=>a56 a66)))else none:=
 BF (by kernel_rfl)
theorem AK9 (t0:V):Cl 69 [t0] []=
 jn (fun a1=>
 AV 0 [] a1) (fun(a2:V→Rv)=>(AO .eql t0 (V.str [109,97,120])).bind fun a3=>V.ite a3 (a2 (V.bool true)) ((AO .eql t0 (V.str [108,97,98,101,108])).bind fun a4=>V.ite a4 (a2 (V.bool true)) ((AO .eql t0 (V.str [115,115,115,112])).bind fun a5=>V.ite a5 (a2 (V.bool true)) ((AO .eql t0 (V.str [98,102,115])).bind fun a6=>V.ite a6 (a2 (V.bool true)) ((AO .eql t0 (V.str [100,101,103,114,101,101])).bind fun a7=>V.ite a7 (a2 (V.bool true)) ((AO .eql t0 (V.str [114,97,110,107])).bind fun a8=>V.ite a8 (a2 (V.bool true)) ((AO .eql t0 (V.str [119,97,108,107,115])).bind fun a9=>a2 a9))))))):=
 BF (by kernel_rfl)
def Ua (t0 t1 t7 t8:V) (n:Nat) (h:List V):Rv:=lp W 73 0 (cd 73 37) (bk 0 (sk 73 0 7 (lv 73 n))) ⟨[(0,t0),(1,t1),(7,t7),(8,t8)],h⟩
theorem Lh (t0 t1 t7 t8:V) (n:Nat) (h:List V):Ua t0 t1 t7 t8 n h=
 (AO .lss t8 t7).bind fun a2=>V.ite a2
  ((Di 60 (V.weak t0) t8).bind fun a3=>(BA h 60 a3).bind fun a4=>CB P Dn W t1 [a4] h fun a5 a6=>if V.noOwn a5=true then V.ite a5
  (AV n a6 t8)
  ((AO .add t8 (V.int .i64 1)).bind fun a7=>Ua t0 t1 t7 a7 n a6)else none)
  (AV n h (V.int .i64 (-1))):=
 CX (by kernel_rfl)
theorem ALA (t0 t1:V) (h:List V):Cl 73 [t0,t1] h=
 (DK (V.weak t0)).bind fun a1=>Ua t0 t1 a1 (V.int .i64 0) (List.length h) h:=
 BF (by kernel_rfl)
def AEB (k:Rv):Rv:=
 k
def AEC (k:V→Rv):Rv:=
 k (V.clo 105 [])
def AED (t0:V) (k:V→Rv):Rv:=
 (lenV P 31 (V.weak t0)).bind fun t9=>(AO .gtr t9 (V.int .i64 512)).bind fun t10=>k t10
def AEE (k:V→Rv):Rv:=
 k (V.int .i64 110)
def AEF (t0:V) (h:List V) (k:V→Rv):Rv:=
 (Cl 106 (AL h [t0]) []).bind fun r=>k r.1
def AEG (t4:V) (k:V→V→V→Rv):Rv:=
 (lenV P 31 (V.weak t4)).bind fun t14=>k (V.weak t4) t14 (V.int .i64 0)
def Ub (t3 t4 t13 t14 t15:V) (h:List V):Rv:=lp W 74 0 (cd 74 303) (bk 0 (sk 74 0 63 (lv 74 0))) ⟨[(3,t3),(4,t4),(13,t13),(14,t14),(15,t15)],h⟩
def YX (t14 t15:V) (k:V→Rv):Rv:=
 (AO .lss t15 t14).bind fun t16=>k t16
def AEH (t13 t15:V) (h:List V) (k:V→V→List V→Rv):Rv:=
 (Ag P 31 t13 t15).bind fun t18=>(Aa h 108 t18).bind fun t19=>(Ec P (h++[zero P 108]) 108 (V.ref (List.length h) [] 108) t19).bind fun a1=>k t15 (V.ref (List.length h) [] 108) a1
def YZ (t4 t5 t6:V) (h:List V) (k:V→Rv):Rv:=
 (AO .gtr t5 (V.int .i64 0)).bind fun t21=>V.ite t21 ((AO .sub t5 (V.int .i64 1)).bind fun t25=>(Ag P 31 (V.weak t4) t25).bind fun t26=>(A7 P 108 0 t26).bind fun t27=>(Aa h 3 t27).bind fun t28=>(A7 P 108 0 t6).bind fun t29=>(Aa h 3 t29).bind fun t30=>(AO .eql t28 t30).bind fun t31=>V.ite t31 ((AO .sub t5 (V.int .i64 1)).bind fun t36=>(Ag P 31 (V.weak t4) t36).bind fun t37=>(A7 P 108 1 t37).bind fun t38=>(Aa h 3 t38).bind fun t39=>(A7 P 108 1 t6).bind fun t40=>(Aa h 3 t40).bind fun t41=>(AO .eql t39 t41).bind fun t42=>k t42) (k (V.bool false))) (k (V.bool false))
def Ya (t3 t6 t7:V) (h:List V) (k:V→List V→Rv):Rv:=
 (A7 P 108 0 t6).bind fun t45=>(Aa h 3 t45).bind fun t46=>CB P Dn W t3 [t46] h fun t47 a1=>if V.noOwn t47=true then(un .not t47).bind fun t48=>V.ite t48 (k (V.bool true) a1) ((A7 P 108 1 t6).bind fun t51=>(Aa a1 3 t51).bind fun t52=>CB P Dn W t3 [t52] a1 fun t53 a2=>if V.noOwn t53=true then(un .not t53).bind fun t54=>V.ite t54 (k (V.bool true) a2) ((A7 P 108 2 t6).bind fun t57=>(Aa a2 2 t57).bind fun t58=>(AO .gtr t58 (V.int .i64 1125899906842624)).bind fun t59=>V.ite t59 (k (V.bool true) a2) ((A7 P 108 2 t6).bind fun t62=>(Aa a2 2 t62).bind fun t63=>(AO .lss t63 (V.int .i64 (-1125899906842624))).bind fun t64=>V.ite t64 (k (V.bool true) a2) (k t7 a2)))else none)else none
def Zn (k:V→Rv):Rv:=
 k (V.int .i64 110)
def Zo (t15:V) (k:V→Rv):Rv:=
 (AO .add t15 (V.int .i64 1)).bind fun t69=>k t69
def Zp (k:V→Rv):Rv:=
 k (V.int .i64 0)
theorem Rn (t3 t4 t13 t14 t15:V) (h:List V):Ub t3 t4 t13 t14 t15 h=
 YX t14 t15 fun a8=>
  V.ite a8
  (AEH t13 t15 h fun a9 a10 a11=>
  YZ t4 a9 a10 a11 fun a12=>
  Ya t3 a10 a12 a11 fun a13 a14=>
  V.ite a13
  (Zn fun a15=>
  AV 0 a14 a15)
  (Zo t15 fun a16=>
  if Ae (List.length h) [t3,t4,t13,t14,a16]=true then Ub t3 t4 t13 t14 a16 (List.take (List.length h) a14)else none))
  (Zp fun a17=>
  AV 0 h a17):=
 CX (by kernel_rfl)
theorem ALB (t0:V):Cl 74 [t0] []=
 AEB (AEC fun a1=>
  AED t0 fun a2=>
  V.ite a2
  (AEE fun a3=>
  AV 0 [] a3)
  (AEF t0 [] fun a4=>
  AEG a4 fun a5 a6 a7=>
  Ub a1 a4 a5 a6 a7 [])):=
 BF (by kernel_rfl)
def AEI (k:Rv):Rv:=
 k
def AEJ (k:V→Rv):Rv:=
 k (V.weak (V.lst 9 .nil []))
def AEK (t0:V) (h:List V) (k:V→V→V→Rv):Rv:=
 (Cl 106 (AL h [t0]) []).bind fun r=>(lenV P 31 r.1).bind fun t8=>k r.1 t8 (V.int .i64 0)
def Uc (t3 t7 t8 t9:V) (h:List V):Rv:=lp W 75 0 (cd 75 75) (bk 0 (sk 75 0 15 (lv 75 0))) ⟨[(3,t3),(7,t7),(8,t8),(9,t9)],h⟩
def Yb (t8 t9:V) (k:V→Rv):Rv:=
 (AO .lss t9 t8).bind fun t10=>k t10
def AEL (t7 t9:V) (h:List V) (k:V→List V→Rv):Rv:=
 (Ag P 31 t7 t9).bind fun t11=>(Aa h 108 t11).bind fun t12=>(Ec P (h++[zero P 108]) 108 (V.ref (List.length h) [] 108) t12).bind fun a1=>k (V.ref (List.length h) [] 108) a1
def AEM (t3 t5:V) (h:List V) (k:V→Rv):Rv:=
 (Aa h 108 t5).bind fun t14=>(Cl 107 (AL h [t14]) []).bind fun r=>(Ew P 58 1 [(0,r.1)]).bind fun t16=>(EK P 58 h t3 t16).bind fun t17=>k t17
def AEN (t9:V) (k:V→Rv):Rv:=
 (AO .add t9 (V.int .i64 1)).bind fun t18=>k t18
def AEO (t3:V) (k:V→Rv):Rv:=
 k t3
theorem Ro (t3 t7 t8 t9:V) (h:List V):Uc t3 t7 t8 t9 h=
 Yb t8 t9 fun a5=>
  V.ite a5
  (AEL t7 t9 h fun a6 a7=>
  AEM t3 a6 a7 fun a8=>
  AEN t9 fun a9=>
  if Ae (List.length h) [a8,t7,t8,a9]=true then Uc a8 t7 t8 a9 (List.take (List.length h) a7)else none)
  (AEO t3 fun a10=>
  AV 0 h a10):=
 CX (by kernel_rfl)
theorem ALC (t0:V):Cl 75 [t0] []=
 AEI (AEJ fun a1=>
  AEK t0 [] fun a2 a3 a4=>
  Uc a1 a2 a3 a4 []):=
 BF (by kernel_rfl)
def Yc (k:Rv):Rv:=
 k
def Yd (t0:V) (h:List V) (k:V→Rv):Rv:=
 (Bj t0).bind fun t8=>(A7 P 130 1 t8).bind fun t9=>(Aa h 34 t9).bind fun t10=>(AO .neq t10 (V.int .i64 0)).bind fun t11=>k t11
def AEP (k:V→Rv):Rv:=
 k (V.bool false)
def AEQ (t0 t1:V) (h:List V) (k:V→V→List V→Rv):Rv:=
 (Bj t0).bind fun t15=>(A7 P 130 0 t15).bind fun t16=>(Aa h 9 t16).bind fun t17=>CB P Dn W t1 [t17] h fun t18 a1=>if V.noOwn t18=true then(ext t18 0).bind fun t19=>(ext t18 1).bind fun t20=>k t19 t20 a1 else none
def AER (t0 t6:V) (h:List V) (k:List V→Rv):Rv:=
 (Bj t0).bind fun t23=>(A7 P 130 1 t23).bind fun t24=>(Ec P h 34 t24 t6).bind fun a1=>k a1
def AES (t6:V) (k:V→Rv):Rv:=
 (AO .neq t6 (V.int .i64 0)).bind fun t26=>k t26
def AET (k:V→Rv):Rv:=
 k (V.bool false)
def AEU (t0 t5:V) (h:List V) (k:List V→Rv):Rv:=
 (Bj t0).bind fun t29=>(A7 P 130 0 t29).bind fun t30=>(Aa h 9 t30).bind fun t31=>(Jm P 9 t31 (some t5) none none).bind fun t33=>(Bj t0).bind fun t34=>(A7 P 130 0 t34).bind fun t35=>(Ec P h 9 t35 t33).bind fun a1=>k a1
def AEV (k:V→Rv):Rv:=
 k (V.bool true)
theorem AEW (t0 t1:V) (h:List V):Cl 77 [t0,t1] h=
 Yc (Yd t0 h fun a1=>
  V.ite a1
  (AEP fun a2=>
  AV (List.length h) h a2)
  (AEQ t0 t1 h fun a3 a4 a5=>
  AER t0 a4 a5 fun a6=>
  AES a4 fun a7=>
  V.ite a7
  (AET fun a8=>
  AV (List.length h) a6 a8)
  (AEU t0 a3 a6 fun a9=>
  AEV fun a10=>
  AV (List.length h) a9 a10))):=
 BF (by kernel_rfl)
def AEX (k:Rv):Rv:=
 k
def AEY (t0:V) (h:List V) (k:V→V→V→Rv):Rv:=
 (Cl 79 (AL h [t0]) []).bind fun r=>(ext r.1 0).bind fun t11=>(ext r.1 1).bind fun t12=>(ext r.1 2).bind fun t13=>k t11 t12 t13
def AEZ (t1 t5:V) (h:List V) (k:List V→Rv):Rv:=
 (Ec P h 93 t1 t5).bind fun a1=>k a1
def AEa (t6 t7:V) (k:V→V→Rv):Rv:=
 k t6 t7
theorem ALD (t0 t1:V) (h:List V):Cl 78 [t0,t1] h=
 AEX (AEY t0 h fun a1 a2 a3=>
  AEZ t1 a1 h fun a4=>
  AEa a2 a3 fun a5 a6=>
  if(List.all [a6,a5] V.okE)=true then AV (List.length h) a4 (V.tup [a5,a6])else none):=
 BF (by kernel_rfl)
def AEb (k:Rv):Rv:=
 k
def AEc (k:V→Rv):Rv:=
 k (V.int .u64 0)
def AEd (t0:V) (k:V→V→Rv):Rv:=
 (lenV P 9 t0).bind fun t9=>k t9 (V.int .i64 0)
def Ud (t0 t5 t9 t10:V):Rv:=lp W 79 0 (cd 79 75) (bk 0 (sk 79 0 15 (lv 79 0))) ⟨[(0,t0),(5,t5),(9,t9),(10,t10)],[]⟩
def Ye (t9 t10:V) (k:V→Rv):Rv:=
 (AO .lss t10 t9).bind fun t11=>k t11
def AEe (t10:V) (k:V→Rv):Rv:=
 k t10
def AEf (t0 t6:V) (k:V→Rv):Rv:=
 (G7 P 9 t0 t6).bind fun t15=>k t15
def Yf (t6 t7:V) (k:V→Rv):Rv:=
 (AO .eql t6 (V.int .i64 9)).bind fun t17=>V.ite t17 ((AO .gtr t7 (V.int .u8 1)).bind fun t20=>V.ite t20 (k (V.bool true)) ((AO .gtr t6 (V.int .i64 0)).bind fun t24=>V.ite t24 ((AO .eql t7 (V.int .u8 0)).bind fun t27=>k t27) (k (V.bool false)))) ((AO .gtr t6 (V.int .i64 0)).bind fun a1=>V.ite a1 ((AO .eql t7 (V.int .u8 0)).bind fun a1=>k a1) (k (V.bool false)))
def AEg (k:V→V→V→Rv):Rv:=
 k (V.int .u64 0) (V.int .i64 0) (V.int .i64 21)
def Yg (t5 t6 t7:V) (k:V→Rv):Rv:=
 (AO .and t7 (V.int .u8 127)).bind fun t32=>(conv P [] 5 93 t32).bind fun t33=>(AO .mul (V.int .i64 7) t6).bind fun t35=>(conv P [] 3 126 t35).bind fun t36=>(AO .shl t33 t36).bind fun t37=>(AO .or t5 t37).bind fun t38=>k t38
def AEh (t7:V) (k:V→Rv):Rv:=
 (AO .lss t7 (V.int .u8 128)).bind fun t40=>k t40
def Zq (t5 t6:V) (k:V→V→V→Rv):Rv:=
 (AO .add t6 (V.int .i64 1)).bind fun t43=>k t5 t43 (V.int .i64 0)
def Zr (t10:V) (k:V→Rv):Rv:=
 (AO .add t10 (V.int .i64 1)).bind fun t44=>k t44
def Zt (k:V→V→V→Rv):Rv:=
 k (V.int .u64 0) (V.int .i64 0) (V.int .i64 20)
theorem Rq (t0 t5 t9 t10:V):Ud t0 t5 t9 t10=
 Ye t9 t10 fun a4=>
  V.ite a4
  (AEe t10 fun a5=>
  AEf t0 a5 fun a6=>
  Yf a5 a6 fun a7=>
  V.ite a7
  (AEg fun a8 a9 a10=>
  if(List.all [a10,a9,a8] V.okE)=true then AV 0 [] (V.tup [a8,a9,a10])else none)
  (Yg t5 a5 a6 fun a11=>
  AEh a6 fun a12=>
  V.ite a12
  (Zq a11 a5 fun a13 a14 a15=>
  if(List.all [a15,a14,a13] V.okE)=true then AV 0 [] (V.tup [a13,a14,a15])else none)
  (Zr t10 fun a16=>
  Ud t0 a11 t9 a16)))
  (Zt fun a17 a18 a19=>
  if(List.all [a19,a18,a17] V.okE)=true then AV 0 [] (V.tup [a17,a18,a19])else none):=
 CX (by kernel_rfl)
theorem ALE (t0:V):Cl 79 [t0] []=
 AEb (AEc fun a1=>
  AEd t0 fun a2 a3=>
  Ud t0 a1 a2 a3):=
 BF (by kernel_rfl)
theorem ALF (t0:V):Cl 80 [t0] []=
 (IA .eql (V.weak t0) (V.lst 4 .nil [])).bind fun a1=>V.ite a1
  (NT 0 [] (V.weak (V.lst 4 .nil [])))
  ((LX 4 false (ck [] [])).bind fun a2=>(G6 4 tyB false [] a2 t0).bind fun a3=>NT 0 [] a3):=
 BF (by kernel_rfl)
def Ue (t0 t2 t3 t4:V) (n:Nat) (h:List V):Rv:=lp W 81 0 (cd 81 151) (bk 0 (sk 81 0 31 (lv 81 n))) ⟨[(0,t0),(2,t2),(3,t3),(4,t4)],h⟩
theorem JA (t0 t2 t3 t4:V) (n:Nat) (h:List V):Ue t0 t2 t3 t4 n h=
 jn (fun a4 a5=>
 V.ite a4
  ((Aa a5 101 t0).bind fun a6=>(Cl 83 (AP [a6,(V.int .i64 40)]) a5).bind fun a7=>(LX 9 false (ck [tyS a7.1] [a7.1])).bind fun a8=>(G6 9 tyS false a7.2 t3 a8).bind fun a9=>(AO .add t4 (V.int .u64 1)).bind fun a10=>Ue t0 t2 a9 a10 n a7.2)
  ((AO .gtr t2 (V.int .u64 64)).bind fun a11=>V.ite a11
  (AB6 n a5 (V.weak (V.lst 9 .nil [])))
  (AB6 n a5 t3))) (fun(a12:V→List V→Rv)=>(AO .lss t4 t2).bind fun a13=>V.ite a13 ((AO .leq t2 (V.int .u64 64)).bind fun a14=>V.ite a14 ((Aa h 101 t0).bind fun a15=>(Cl 82 (AP [a15]) h).bind fun a16=>(AO .eql a16.1 (V.int .i64 0)).bind fun a17=>a12 a17 a16.2) (a12 (V.bool false) h)) (a12 (V.bool false) h)):=
 CX (by kernel_rfl)
theorem AEi (t0:V) (h:List V):Cl 81 [t0] h=
 (Aa h 101 t0).bind fun a1=>(Cl 55 (AP [a1]) h).bind fun a2=>(LX 9 false (ck [] [])).bind fun a3=>Ue t0 a2.1 a3 (V.int .u64 0) (List.length h) a2.2:=
 BF (by kernel_rfl)
def AEj (k:Rv):Rv:=
 k
def AEk (t0:V) (h:List V) (k:V→Rv):Rv:=
 (Bj t0).bind fun t4=>(A7 P 130 1 t4).bind fun t5=>(Aa h 34 t5).bind fun t6=>k t6
theorem ALG (t0:V) (h:List V):Cl 82 [t0] h=
 AEj (AEk t0 h fun a1=>
  AV (List.length h) h a1):=
 BF (by kernel_rfl)
def AEl (t1:V) (h:List V) (k:V→List V→Rv):Rv:=
 if(BN P 3 t1&&V.under (List.length h) t1)=true then k (V.ref (List.length h) [] 3) (h++[t1])else none
def AEm (h:List V) (k:V→List V→Rv):Rv:=
 (Ec P (h++[zero P 9]) 9 (V.ref (List.length h) [] 9) (V.str [])).bind fun a1=>k (V.ref (List.length h) [] 9) a1
def AEn (t0 t3 t5:V) (h:List V) (k:List V→Rv):Rv:=
 (if(List.all [t3,t5] V.capOk)=true then some (V.clo 109 [t3,t5])else none).bind fun t7=>(Cl 77 (AP [t0,t7]) h).bind fun r=>k r.2
def AEo (t5:V) (h:List V) (k:V→Rv):Rv:=
 (Aa h 9 t5).bind fun t9=>k t9
theorem ALH (t0 t1:V) (h:List V):Cl 83 [t0,t1] h=
 AEl t1 h fun a1 a2=>
  AEm a2 fun a3 a4=>
  AEn t0 a1 a3 a4 fun a5=>
  AEo a3 a5 fun a6=>
  AV (List.length h) a5 a6:=
 BF (by kernel_rfl)
theorem ALI (t0:V) (h:List V):Cl 84 [t0] h=
 (if(List.all [(V.ref (List.length (h++[(V.agg 54 (List.replicate 32 (V.int .u8 0)))])) [] 55)] V.capOk)=true then some (V.clo 110 [(V.ref (List.length (h++[(V.agg 54 (List.replicate 32 (V.int .u8 0)))])) [] 55)])else none).bind fun a1=>(Cl 77 (AP [t0,a1]) ((h++[(V.agg 54 (List.replicate 32 (V.int .u8 0)))])++[(V.agg 54 (List.replicate 32 (V.int .u8 0)))])).bind fun a2=>(Aa a2.2 55 (V.ref (List.length (h++[(V.agg 54 (List.replicate 32 (V.int .u8 0)))])) [] 55)).bind fun a3=>(Cc (BK 54) 55 a2.2 (V.ref (List.length h) [] 55) a3).bind fun a4=>(Aa a4 55 (V.ref (List.length h) [] 55)).bind fun a5=>AV (List.length h) a4 a5:=
 BF (by kernel_rfl)
def AEp (k:Rv):Rv:=
 k
def AEq (t0:V) (h:List V) (k:V→List V→Rv):Rv:=
 (Cl 54 (AP [t0]) h).bind fun r=>k r.1 r.2
def AEr (t4:V) (h:List V) (k:V→List V→Rv):Rv:=
 (Cl 55 (AP [t4]) h).bind fun r=>k r.1 r.2
def AEs (t4:V) (h:List V) (k:V→List V→Rv):Rv:=
 (Cl 82 (AP [t4]) h).bind fun r=>(AO .neq r.1 (V.int .i64 0)).bind fun t20=>k t20 r.2
def AEt (t4:V) (h:List V) (k:V→V→List V→Rv):Rv:=
 (Cl 82 (AP [t4]) h).bind fun r=>k (V.weak (V.lst 108 .nil [])) r.1 r.2
def AEu (t5:V) (k:V→Rv):Rv:=
 (AO .gtr t5 (V.int .u64 512)).bind fun t25=>k t25
def AEv (k:V→V→Rv):Rv:=
 k (V.weak (V.lst 108 .nil [])) (V.int .i64 110)
def AEw (k:V→Rv):Rv:=
 k (V.weak (V.lst 108 .nil []))
def AEx (t5:V) (k:V→V→Rv):Rv:=
 k t5 (V.int .u64 0)
def Lj (t0 t4 t6 t26 t27:V) (h:List V):Rv:=lp W 85 1 (cd 85 607) (bk 1 (sk 85 0 127 (lv 85 0))) ⟨[(0,t0),(4,t4),(6,t6),(26,t26),(27,t27)],h⟩
def Yh (t26 t27:V) (k:V→Rv):Rv:=
 (AO .lss t27 t26).bind fun t28=>k t28
def Zu (t4:V) (h:List V) (k:V→List V→Rv):Rv:=
 (Cl 83 (AP [t4,(V.int .i64 40)]) h).bind fun r=>k r.1 r.2
def Zv (t4:V) (h:List V) (k:V→List V→Rv):Rv:=
 (Cl 82 (AP [t4]) h).bind fun r=>(AO .neq r.1 (V.int .i64 0)).bind fun t33=>k t33 r.2
def Zw (t4:V) (h:List V) (k:V→V→List V→Rv):Rv:=
 (Cl 82 (AP [t4]) h).bind fun r=>k (V.weak (V.lst 108 .nil [])) r.1 r.2
def Zx (t7:V) (h:List V) (k:V→V→List V→Rv):Rv:=
 (Cl 111 (AL h [t7]) []).bind fun r=>(ext r.1 0).bind fun t39=>(ext r.1 1).bind fun t40=>(Ec P (h++[zero P 108]) 108 (V.ref (List.length h) [] 108) t39).bind fun a1=>k (V.ref (List.length h) [] 108) t40 a1
def Zy (t9:V) (k:V→Rv):Rv:=
 (AO .neq t9 (V.int .i64 0)).bind fun t42=>k t42
def Zz (t9:V) (k:V→V→Rv):Rv:=
 k (V.weak (V.lst 108 .nil [])) t9
def Z4 (t6 t8:V) (h:List V) (k:V→Rv):Rv:=
 (Aa h 108 t8).bind fun t45=>(Ew P 31 1 [(0,t45)]).bind fun t46=>(EK P 31 h t6 t46).bind fun t47=>k t47
def Z5 (t27:V) (k:V→Rv):Rv:=
 (AO .add t27 (V.int .u64 1)).bind fun t48=>k t48
def Z7 (t4:V) (h:List V) (k:V→List V→Rv):Rv:=
 (Cl 86 (AP [t4]) h).bind fun r=>k r.1 r.2
def Z8 (t10:V) (k:V→Rv):Rv:=
 (AO .neq t10 (V.int .i64 0)).bind fun t52=>k t52
def Z9 (t10:V) (k:V→V→Rv):Rv:=
 k (V.weak (V.lst 108 .nil [])) t10
def AAA (t6:V) (h:List V) (k:V→V→Rv):Rv:=
 (Cl 49 (AL h [(V.weak t6)]) []).bind fun r=>(ext r.1 0).bind fun t57=>(ext r.1 1).bind fun t58=>k t57 t58
def Uf (t0 t11 t12:V) (k:V→Rv):Rv:=
 (AO .neq t12 (V.int .i64 0)).bind fun t60=>V.ite t60 (k (V.bool true)) ((AO .neq t11 t0).bind fun t64=>k t64)
def Ug (k:V→V→Rv):Rv:=
 k (V.weak (V.lst 108 .nil [])) (V.int .i64 110)
def AAB (t6:V) (k:V→V→Rv):Rv:=
 k t6 (V.int .i64 0)
theorem Rt (t0 t4 t6 t26 t27:V) (h:List V):Lj t0 t4 t6 t26 t27 h=
 Yh t26 t27 fun a16=>
  V.ite a16
  (Zu t4 h fun a17 a18=>
  Zv t4 a18 fun a19 a20=>
  V.ite a19
  (Zw t4 a20 fun a21 a22 a23=>
  if(List.all [a22,a21] V.okE)=true then AV 0 a23 (V.tup [a21,a22])else none)
  (Zx a17 a20 fun a24 a25 a26=>
  Zy a25 fun a27=>
  V.ite a27
  (Zz a25 fun a28 a29=>
  if(List.all [a29,a28] V.okE)=true then AV 0 a26 (V.tup [a28,a29])else none)
  (Z4 t6 a24 a26 fun a30=>
  Z5 t27 fun a31=>
  if Ae (List.length h) [t0,t4,a30,t26,a31]=true then Lj t0 t4 a30 t26 a31 (List.take (List.length h) a26)else none)))
  (Z7 t4 h fun a32 a33=>
  Z8 a32 fun a34=>
  V.ite a34
  (Z9 a32 fun a35 a36=>
  if(List.all [a36,a35] V.okE)=true then AV 0 a33 (V.tup [a35,a36])else none)
  (AAA t6 a33 fun a37 a38=>
  Uf t0 a37 a38 fun a39=>
  V.ite a39
  (Ug fun a40 a41=>
  if(List.all [a41,a40] V.okE)=true then AV 0 a33 (V.tup [a40,a41])else none)
  (AAB t6 fun a42 a43=>
  if(List.all [a43,a42] V.okE)=true then AV 0 a33 (V.tup [a42,a43])else none))):=
 CX (by kernel_rfl)
theorem ALJ (t0:V):Cl 85 [t0] []=
 AEp (AEq t0 [] fun a1 a2=>
  AEr a1 a2 fun a3 a4=>
  AEs a1 a4 fun a5 a6=>
  V.ite a5
  (AEt a1 a6 fun a7 a8 a9=>
  if(List.all [a8,a7] V.okE)=true then AV 0 a9 (V.tup [a7,a8])else none)
  (AEu a3 fun a10=>
  V.ite a10
  (AEv fun a11 a12=>
  if(List.all [a12,a11] V.okE)=true then AV 0 a6 (V.tup [a11,a12])else none)
  (AEw fun a13=>
  AEx a3 fun a14 a15=>
  Lj t0 a1 a13 a14 a15 a6))):=
 BF (by kernel_rfl)
def AEy (k:Rv):Rv:=
 k
def AEz (t0:V) (h:List V) (k:V→Rv):Rv:=
 (Bj t0).bind fun t4=>(A7 P 130 1 t4).bind fun t5=>(Aa h 34 t5).bind fun t6=>(AO .eql t6 (V.int .i64 0)).bind fun t7=>V.ite t7 ((Bj t0).bind fun t10=>(A7 P 130 0 t10).bind fun t11=>(Aa h 9 t11).bind fun t12=>(AO .neq t12 (V.str [])).bind fun t13=>k t13) (k (V.bool false))
def AE0 (k:V→Rv):Rv:=
 k (V.int .i64 22)
def AE1 (t0:V) (h:List V) (k:V→Rv):Rv:=
 (Bj t0).bind fun t16=>(A7 P 130 1 t16).bind fun t17=>(Aa h 34 t17).bind fun t18=>k t18
theorem ALK (t0:V) (h:List V):Cl 86 [t0] h=
 AEy (AEz t0 h fun a1=>
  V.ite a1
  (AE0 fun a2=>
  AV (List.length h) h a2)
  (AE1 t0 h fun a3=>
  AV (List.length h) h a3)):=
 BF (by kernel_rfl)
theorem ALM (t0 t1:V) (h:List V):Cl 87 [t0,t1] h=
 if((BK 111) t0&&V.under (List.length h) t0)=true then jn (fun a1=>
 AV (List.length h) (h++[t0]) a1) (fun(a2:V→Rv)=>(fA 112 3 0 (V.ref (List.length h) [] 112)).bind fun a3=>(Aa (h++[t0]) 3 a3).bind fun a4=>(AO .lss a4 (V.int .i64 0)).bind fun a5=>V.ite a5 (a2 (V.bool true)) ((fA 112 3 0 (V.ref (List.length h) [] 112)).bind fun a6=>(Aa (h++[t0]) 3 a6).bind fun a7=>(fA 24 3 0 t1).bind fun a8=>(Aa (h++[t0]) 3 a8).bind fun a9=>(AO .geq a7 a9).bind fun a10=>V.ite a10 (a2 (V.bool true)) ((fA 112 3 1 (V.ref (List.length h) [] 112)).bind fun a11=>(Aa (h++[t0]) 3 a11).bind fun a12=>(AO .lss a12 (V.int .i64 0)).bind fun a13=>V.ite a13 (a2 (V.bool true)) ((fA 112 3 1 (V.ref (List.length h) [] 112)).bind fun a14=>(Aa (h++[t0]) 3 a14).bind fun a15=>(fA 24 3 0 t1).bind fun a16=>(Aa (h++[t0]) 3 a16).bind fun a17=>(AO .geq a15 a17).bind fun a18=>V.ite a18 (a2 (V.bool true)) ((fA 112 2 2 (V.ref (List.length h) [] 112)).bind fun a19=>(Aa (h++[t0]) 2 a19).bind fun a20=>(AO .lss a20 (V.int .i64 0)).bind fun a21=>V.ite a21 (a2 (V.bool true)) ((fA 112 2 2 (V.ref (List.length h) [] 112)).bind fun a22=>(Aa (h++[t0]) 2 a22).bind fun a23=>(AO .gtr a23 (V.int .i64 1048576)).bind fun a24=>a2 a24))))))else none:=
 BF (by kernel_rfl)
theorem ALN (t0 t1:V) (h:List V):Cl 88 [t0,t1] h=
 (Cl 112 (AP [t0,t1]) h).bind fun a1=>(AO .geq a1.1 (V.int .i64 0)).bind fun a2=>AV (List.length h) a1.2 a2:=
 BF (by kernel_rfl)
theorem ALO (t0 t1:V) (h:List V):Cl 89 [t0,t1] h=
 (Cl 113 (AP [t0]) h).bind fun a1=>(aps 1000091 112 [(V.weak a1.1),t1] a1.2).bind fun a2=>AV (List.length h) a2.2 a1.1:=
 BF (by kernel_rfl)
theorem ALP (t0:V) (h:List V):Cl 90 [t0] h=
 if((JS 112) (V.weak t0)&&V.under (List.length h) (V.weak t0))=true then(if(List.all [(V.ref (List.length h) [] 22)] V.capOk)=true then some (V.clo 115 [(V.ref (List.length h) [] 22)])else none).bind fun a1=>Vl (h++[(V.weak t0)]) a1 else none:=
 BF (by kernel_rfl)
theorem ALQ (t0 t1:V):Cl 91 [t0,t1] []=
 if((BK 111) t0&&V.under 0 t0)=true then if((BK 111) t1&&V.under 1 t1)=true then(fA 112 3 0 (V.ref 0 [] 112)).bind fun a1=>(Aa [t0,t1] 3 a1).bind fun a2=>(fA 112 3 0 (V.ref 1 [] 112)).bind fun a3=>(Aa [t0,t1] 3 a3).bind fun a4=>(AO .neq a2 a4).bind fun a5=>V.ite a5
  ((fA 112 3 0 (V.ref 0 [] 112)).bind fun a6=>(Aa [t0,t1] 3 a6).bind fun a7=>(fA 112 3 0 (V.ref 1 [] 112)).bind fun a8=>(Aa [t0,t1] 3 a8).bind fun a9=>(AO .sub a7 a9).bind fun a10=>AV 0 [t0,t1] a10)
  ((fA 112 3 1 (V.ref 0 [] 112)).bind fun a11=>(Aa [t0,t1] 3 a11).bind fun a12=>(fA 112 3 1 (V.ref 1 [] 112)).bind fun a13=>(Aa [t0,t1] 3 a13).bind fun a14=>(AO .sub a12 a14).bind fun a15=>AV 0 [t0,t1] a15)else none else none:=
 BF (by kernel_rfl)
theorem ALR (t0 t1:V):Cl 92 [t0,t1] []=
 (Cl 116 (AL [] [t0,t1]) []).bind fun a1=>(AO .geq a1.1 (V.int .i64 0)).bind fun a2=>AV 0 [] a2:=
 BF (by kernel_rfl)
theorem ALS (t0:V):Cl 93 [t0] []=
 (AO .mul t0 (V.int .u32 2654435761)).bind fun a1=>(AO .shr a1 (V.int .u64 15)).bind fun a2=>(AO .xor a1 a2).bind fun a3=>(AO .mul a3 (V.int .u32 2246822519)).bind fun a4=>(AO .shr a4 (V.int .u64 13)).bind fun a5=>(AO .xor a4 a5).bind fun a6=>AV 0 [] a6:=
 BF (by kernel_rfl)
def AE2 (t1:V) (h:List V) (k:V→V→List V→Rv):Rv:=
 if(BN P 55 t1&&V.under (List.length h) t1)=true then k (V.ref (List.length h) [] 55) (V.ref (List.length (h++[t1])) [] 55) ((h++[t1])++[zero P 55])else none
def AE3 (h:List V) (k:V→List V→Rv):Rv:=
 (Cl 45 (AP []) h).bind fun r=>k r.1 r.2
def AE4 (t0 t5:V) (h:List V) (k:List V→Rv):Rv:=
 (conv P h 3 93 t0).bind fun t9=>(Cl 46 (AP [t5,t9]) h).bind fun r=>k r.2
def AE5 (t3 t4 t5:V) (h:List V) (k:List V→Rv):Rv:=
 (Ew P 68 1 [(0,(V.int .u8 3))]).bind fun t11=>(Cl 50 (AP [t5]) h).bind fun r=>(conv P r.2 9 68 r.1).bind fun t14=>(Jm P 55 t3 none none none).bind fun t15=>(Ew P 182 3 [(0,t11),(1,t14),(2,t15)]).bind fun t16=>(Cl 117 (AL r.2 [t16]) []).bind fun a1=>(Ec P r.2 55 t4 a1.1).bind fun a1=>k a1
theorem ALT (t0 t1:V):Cl 94 [t0,t1] []=
 AE2 t1 [] fun a1 a2 a3=>
  AE3 a3 fun a4 a5=>
  AE4 t0 a4 a5 fun a6=>
  AE5 a1 a2 a4 a6 fun a7=>
  (Aa a7 55 a2).bind fun a8=>AV 0 a7 a8:=
 BF (by kernel_rfl)
theorem AE6 (t0:V):Cl 95 [t0] []=
 (DK (V.weak t0)).bind fun a1=>(AO .eql a1 (V.int .i64 0)).bind fun a2=>V.ite a2
  ((LX 5 false (ck [(NZ .u8) (V.int .u8 2)] [(V.int .u8 2)])).bind fun a3=>(LX 68 true (ck [(JS 5) a3] [(V.weak a3)])).bind fun a4=>(Cl 117 (AL [(V.agg 54 (List.replicate 32 (V.int .u8 0)))] [a4]) []).bind fun a5=>(Cc (BK 54) 55 [(V.agg 54 (List.replicate 32 (V.int .u8 0)))] (V.ref 0 [] 55) a5.1).bind fun a6=>(Aa a6 55 (V.ref 0 [] 55)).bind fun a7=>AV 0 a6 a7)
  ((AO .eql a1 (V.int .i64 1)).bind fun a8=>V.ite a8
  ((Di 9 t0 (V.int .i64 0)).bind fun a9=>(Aa [(V.agg 54 (List.replicate 32 (V.int .u8 0)))] 9 a9).bind fun a10=>(Cl 118 (AL [(V.agg 54 (List.replicate 32 (V.int .u8 0)))] [a10]) []).bind fun a11=>(Cc (BK 54) 55 [(V.agg 54 (List.replicate 32 (V.int .u8 0)))] (V.ref 0 [] 55) a11.1).bind fun a12=>(Aa a12 55 (V.ref 0 [] 55)).bind fun a13=>AV 0 a12 a13)
  ((DK (V.weak t0)).bind fun a14=>(Cl 119 (AL [(V.agg 54 (List.replicate 32 (V.int .u8 0)))] [a14]) []).bind fun a15=>(slL 9 (V.weak t0) none (some a15.1) (some a15.1)).bind fun a16=>(Cl 95 (AL [(V.agg 54 (List.replicate 32 (V.int .u8 0)))] [a16]) []).bind fun a17=>(slL 9 (V.weak t0) (some a15.1) none none).bind fun a18=>(Cl 95 (AL [(V.agg 54 (List.replicate 32 (V.int .u8 0)))] [a18]) []).bind fun a19=>(Cl 120 (AL [(V.agg 54 (List.replicate 32 (V.int .u8 0)))] [a17.1,a19.1]) []).bind fun a20=>(Cc (BK 54) 55 [(V.agg 54 (List.replicate 32 (V.int .u8 0)))] (V.ref 0 [] 55) a20.1).bind fun a21=>(Aa a21 55 (V.ref 0 [] 55)).bind fun a22=>AV 0 a21 a22)):=
 BF (by kernel_rfl)
theorem Jp (t0:V):Cl 96 [t0] []=
 if((BK 80) t0&&V.under 0 t0)=true then jn (fun a1=>
 V.ite a1
  (AV 0 [t0] (V.int .i64 100))
  (AV 0 [t0] (V.int .i64 0))) (fun(a2:V→Rv)=>(fA 81 3 0 (V.ref 0 [] 81)).bind fun a3=>(Aa [t0] 3 a3).bind fun a4=>(AO .lss a4 (V.int .i64 0)).bind fun a5=>V.ite a5 (a2 (V.bool true)) ((fA 81 3 0 (V.ref 0 [] 81)).bind fun a6=>(Aa [t0] 3 a6).bind fun a7=>(AO .geq a7 (V.int .i64 64)).bind fun a8=>V.ite a8 (a2 (V.bool true)) ((fA 81 2 1 (V.ref 0 [] 81)).bind fun a9=>(Aa [t0] 2 a9).bind fun a10=>(Cl 121 (AL [t0] [a10]) []).bind fun a11=>V.ite a11.1 (a2 (V.bool true)) ((fA 81 2 4 (V.ref 0 [] 81)).bind fun a12=>(Aa [t0] 2 a12).bind fun a13=>(Cl 121 (AL [t0] [a13]) []).bind fun a14=>V.ite a14.1 (a2 (V.bool true)) ((fA 81 4 3 (V.ref 0 [] 81)).bind fun a15=>(Aa [t0] 4 a15).bind fun a16=>(un .not a16).bind fun a17=>V.ite a17 ((fA 81 2 4 (V.ref 0 [] 81)).bind fun a18=>(Aa [t0] 2 a18).bind fun a19=>(AO .neq a19 (V.int .i64 0)).bind fun a20=>a2 a20) (a2 (V.bool false)))))))else none:=
 BF (by kernel_rfl)
def AE7 (t0 t1:V) (h:List V) (k:List V→Rv):Rv:=
 (conv P h 2 93 t1).bind fun t6=>(AO .shl t6 (V.int .u64 1)).bind fun t7=>(AO .shr t1 (V.int .u64 63)).bind fun t9=>(conv P h 2 93 t9).bind fun t10=>(AO .xor t7 t10).bind fun t11=>(Cl 46 (AP [t0,t11]) h).bind fun r=>k r.2
theorem ALU (t0 t1:V) (h:List V):Cl 97 [t0,t1] h=
 AE7 t0 t1 h fun a1=>
  if(List.all [] V.okE)=true then AV (List.length h) a1 (V.tup [])else none:=
 BF (by kernel_rfl)
theorem ALV (t0:V):Cl 98 [t0] []=
 V.ite t0
  (AV 0 [] (V.int .u64 1))
  (AV 0 [] (V.int .u64 0)):=
 BF (by kernel_rfl)
def AAC (k:Rv):Rv:=
 k
def AAD (t0:V) (k:V→Rv):Rv:=
 (AO .geq t0 (V.int .i64 0)).bind fun t4=>V.ite t4 ((AO .lss t0 (V.int .i64 64)).bind fun t7=>k t7) (k (V.bool false))
theorem AHY (t0:V):Cl 105 [t0] []=
 AAC (AAD t0 fun a1=>
  AV 0 [] a1):=
 BF (by kernel_rfl)
def AAE (k:Rv):Rv:=
 k
def AAF (t0:V) (h:List V) (k:V→List V→Rv):Rv:=
 (EK P 31 h (V.lst 108 .nil []) t0).bind fun v=>(Dz h v).bind fun r=>k r.1 r.2
def AAG (t3:V) (h:List V) (k:List V→Rv):Rv:=
 (aps 2000128 108 [(V.weak t3),(V.clo 128 [])] h).bind fun r=>k r.2
def AAH (t3:V) (k:V→Rv):Rv:=
 k t3
theorem AHZ (t0:V):Cl 106 [t0] []=
 AAE (AAF t0 [] fun a1 a2=>
  AAG a1 a2 fun a3=>
  AAH a1 fun a4=>
  AV 0 a3 a4):=
 BF (by kernel_rfl)
def AAI (t0:V) (h:List V) (k:V→List V→Rv):Rv:=
 if(BN P 108 t0&&V.under (List.length h) t0)=true then k (V.ref (List.length h) [] 108) (h++[t0])else none
def AAJ (t1:V) (h:List V) (k:V→Rv):Rv:=
 (A7 P 108 0 t1).bind fun t4=>(Aa h 3 t4).bind fun t5=>(AO .lss t5 (V.int .i64 0)).bind fun t6=>V.ite t6 (k (V.bool true)) ((A7 P 108 1 t1).bind fun t8=>(Aa h 3 t8).bind fun t9=>(AO .lss t9 (V.int .i64 0)).bind fun t10=>k t10)
def Uh (k:V→Rv):Rv:=
 k (V.str [])
def AAK (h:List V) (k:V→List V→Rv):Rv:=
 (Cl 45 (AP []) h).bind fun r=>k r.1 r.2
def AAL (t1 t3:V) (h:List V) (k:List V→Rv):Rv:=
 (A7 P 108 0 t1).bind fun t14=>(Aa h 3 t14).bind fun t15=>(conv P h 3 93 t15).bind fun t16=>(Cl 46 (AP [t3,t16]) h).bind fun r=>k r.2
def AAM (t1 t3:V) (h:List V) (k:List V→Rv):Rv:=
 (A7 P 108 1 t1).bind fun t19=>(Aa h 3 t19).bind fun t20=>(conv P h 3 93 t20).bind fun t21=>(Cl 46 (AP [t3,t21]) h).bind fun r=>k r.2
def AAN (t1 t3:V) (h:List V) (k:List V→Rv):Rv:=
 (A7 P 108 2 t1).bind fun t24=>(Aa h 2 t24).bind fun t25=>(Cl 97 (AP [t3,t25]) h).bind fun r=>k r.2
def AAO (t3:V) (h:List V) (k:V→List V→Rv):Rv:=
 (Cl 50 (AP [t3]) h).bind fun r=>k r.1 r.2
theorem AHa (t0:V):Cl 107 [t0] []=
 AAI t0 [] fun a1 a2=>
  AAJ a1 a2 fun a3=>
  V.ite a3
  (Uh fun a4=>
  AV 0 a2 a4)
  (AAK a2 fun a5 a6=>
  AAL a1 a5 a6 fun a7=>
  AAM a1 a5 a7 fun a8=>
  AAN a1 a5 a8 fun a9=>
  AAO a5 a9 fun a10 a11=>
  AV 0 a11 a10):=
 BF (by kernel_rfl)
def AAP (k:Rv):Rv:=
 k
def AAQ (t0:V) (h:List V) (k:V→V→V→Rv):Rv:=
 (Cl 79 (AL h [t0]) []).bind fun r=>(ext r.1 0).bind fun t12=>(ext r.1 1).bind fun t13=>(ext r.1 2).bind fun t14=>k t12 t13 t14
def AAR (t8:V) (k:V→Rv):Rv:=
 (AO .neq t8 (V.int .i64 0)).bind fun t17=>k t17
def AAS (t8:V) (k:V→V→Rv):Rv:=
 k (V.int .i64 0) t8
def AAT (t1 t6:V) (h:List V) (k:V→Rv):Rv:=
 (Aa h 3 t1).bind fun t20=>(AO .lss t20 (V.int .i64 0)).bind fun t21=>V.ite t21 (k (V.bool true)) ((Aa h 3 t1).bind fun t24=>(conv P h 3 93 t24).bind fun t25=>(AO .gtr t6 t25).bind fun t26=>k t26)
def AAU (k:V→V→Rv):Rv:=
 k (V.int .i64 0) (V.int .i64 22)
def AAV (t0 t6 t7:V) (h:List V) (k:V→Rv):Rv:=
 (lenV P 9 t0).bind fun t31=>(AO .sub t31 t7).bind fun t33=>(conv P h 3 93 t33).bind fun t34=>(AO .gtr t6 t34).bind fun t35=>k t35
def AAW (k:V→V→Rv):Rv:=
 k (V.int .i64 0) (V.int .i64 20)
def AAX (t0 t2 t6 t7:V) (h:List V) (k:List V→Rv):Rv:=
 (conv P h 93 3 t6).bind fun t40=>(AO .add t7 t40).bind fun t41=>(Jm P 9 t0 (some t7) (some t41) none).bind fun t42=>(Ec P h 9 t2 t42).bind fun a1=>k a1
def AAY (t6 t7:V) (h:List V) (k:V→V→Rv):Rv:=
 (conv P h 93 3 t6).bind fun t45=>(AO .add t7 t45).bind fun t46=>k t46 (V.int .i64 0)
theorem AHb (t0 t1 t2:V) (h:List V):Cl 109 [t0,t1,t2] h=
 AAP (AAQ t0 h fun a1 a2 a3=>
  AAR a3 fun a4=>
  V.ite a4
  (AAS a3 fun a5 a6=>
  if(List.all [a6,a5] V.okE)=true then AV (List.length h) h (V.tup [a5,a6])else none)
  (AAT t1 a1 h fun a7=>
  V.ite a7
  (AAU fun a8 a9=>
  if(List.all [a9,a8] V.okE)=true then AV (List.length h) h (V.tup [a8,a9])else none)
  (AAV t0 a1 a2 h fun a10=>
  V.ite a10
  (AAW fun a11 a12=>
  if(List.all [a12,a11] V.okE)=true then AV (List.length h) h (V.tup [a11,a12])else none)
  (AAX t0 t2 a1 a2 h fun a13=>
  AAY a1 a2 a13 fun a14 a15=>
  if(List.all [a15,a14] V.okE)=true then AV (List.length h) a13 (V.tup [a14,a15])else none)))):=
 BF (by kernel_rfl)
theorem AHc (t0 t1:V) (h:List V):Cl 110 [t0,t1] h=
 (lnS t0).bind fun a1=>(AO .lss a1 (V.int .i64 32)).bind fun a2=>V.ite a2
  (if(List.all [(V.int .i64 20),(V.int .i64 0)] V.okE)=true then AV (List.length h) h (V.tup [(V.int .i64 0),(V.int .i64 20)])else none)
  ((slA 55 54 32 5 t1 none none none).bind fun a3=>(cpy P 68 h a3 t0).bind fun a4=>if(List.all [(V.int .i64 0),a4.1] V.okE)=true then AV (List.length h) a4.2 (V.tup [a4.1,(V.int .i64 0)])else none):=
 BF (by kernel_rfl)
def AAZ (h:List V) (k:V→List V→Rv):Rv:=
 k (V.ref (List.length h) [] 108) (h++[zero P 108])
def AAa (t0:V) (h:List V) (k:V→List V→Rv):Rv:=
 (Cl 54 (AP [t0]) h).bind fun r=>k r.1 r.2
def AAb (k:V→Rv):Rv:=
 k (V.clo 130 [])
def AAc (t4 t5:V) (h:List V) (k:V→List V→Rv):Rv:=
 (Cl 55 (AP [t4]) h).bind fun r=>CB P Dn W t5 [r.1] r.2 fun t12 a1=>if V.noOwn t12=true then(Cl 55 (AP [t4]) a1).bind fun a1=>CB P Dn W t5 [a1.1] a1.2 fun t16 a2=>if V.noOwn t16=true then(Cl 131 (AP [t4]) a2).bind fun a2=>(YO P 108 [(0,t12),(1,t16),(2,a2.1)]).bind fun t19=>(Ec P (a2.2++[zero P 108]) 108 (V.ref (List.length a2.2) [] 108) t19).bind fun a3=>k (V.ref (List.length a2.2) [] 108) a3 else none else none
def Ui (t2 t4 t6:V) (h:List V) (k:V→List V→Rv):Rv:=
 if Ey t6 t6=true then(Aa h 108 t6).bind fun t20=>CU P Dn W (some t6) (V.clo 86 []) [t4] h fun t22 a1=>(Ec P a1 108 t2 t20).bind fun a2=>k t22 a2 else none
theorem AHd (t0:V):Cl 111 [t0] []=
 AAZ [] fun a1 a2=>
  AAa t0 a2 fun a3 a4=>
  AAb fun a5=>
  AAc a3 a5 a4 fun a6 a7=>
  Ui a1 a3 a6 a7 fun a8 a9=>
  (Aa a9 108 a1).bind fun a10=>if(List.all [a8,a10] V.okE)=true then AV 0 a9 (V.tup [a10,a8])else none:=
 BF (by kernel_rfl)
def Na (t0 t1 t7 t8:V) (n:Nat) (h:List V):Rv:=lp W 112 0 (cd 112 37) (bk 0 (sk 112 0 7 (lv 112 n))) ⟨[(0,t0),(1,t1),(7,t7),(8,t8)],h⟩
theorem Oj (t0 t1 t7 t8:V) (n:Nat) (h:List V):Na t0 t1 t7 t8 n h=
 (AO .lss t8 t7).bind fun a2=>V.ite a2
  ((Di 112 (V.weak t0) t8).bind fun a3=>(Aa h 112 a3).bind fun a4=>CB P Dn W t1 [a4] h fun a5 a6=>if V.noOwn a5=true then V.ite a5
  (AV n a6 t8)
  ((AO .add t8 (V.int .i64 1)).bind fun a7=>Na t0 t1 t7 a7 n a6)else none)
  (AV n h (V.int .i64 (-1))):=
 CX (by kernel_rfl)
theorem AHe (t0 t1:V) (h:List V):Cl 112 [t0,t1] h=
 (DK (V.weak t0)).bind fun a1=>Na t0 t1 a1 (V.int .i64 0) (List.length h) h:=
 BF (by kernel_rfl)
theorem AHf (t0:V) (h:List V):Cl 113 [t0] h=
 (aps 115 112 [(V.lst 112 .nil []),t0] h).bind fun a1=>Vl a1.2 a1.1:=
 BF (by kernel_rfl)
def Nb (t0 t1 t7 t8:V):Rv:=lp W 116 0 (cd 116 37) (bk 0 (sk 116 0 7 (lv 116 0))) ⟨[(0,t0),(1,t1),(7,t7),(8,t8)],[]⟩
theorem Ol (t0 t1 t7 t8:V):Nb t0 t1 t7 t8=
 (AO .lss t8 t7).bind fun a2=>V.ite a2
  ((Di 9 (V.weak t0) t8).bind fun a3=>(Aa [] 9 a3).bind fun a4=>(AO .eql t1 a4).bind fun a5=>V.ite a5
  (AV 0 [] t8)
  ((AO .add t8 (V.int .i64 1)).bind fun a6=>Nb t0 t1 t7 a6))
  (AV 0 [] (V.int .i64 (-1))):=
 CX (by kernel_rfl)
theorem AHg (t0 t1:V):Cl 116 [t0,t1] []=
 (DK (V.weak t0)).bind fun a1=>Nb t0 t1 a1 (V.int .i64 0):=
 BF (by kernel_rfl)
def AAd (h:List V) (k:V→List V→Rv):Rv:=
 k (V.ref (List.length h) [] 55) (h++[zero P 55])
def AAe (t0:V) (h:List V) (k:V→Rv):Rv:=
 (Cl 135 (AL h [t0,(V.lst 5 .nil [])]) []).bind fun r=>k r.1
def AAf (t3:V) (h:List V) (k:V→Rv):Rv:=
 (lenV P 68 (V.weak t3)).bind fun t12=>(conv P h 3 93 t12).bind fun t13=>(AO .mul t13 (V.int .u64 8)).bind fun t14=>k t14
def AAg (t3:V) (h:List V) (k:V→Rv):Rv:=
 (Ew P 68 1 [(0,(V.int .u8 128))]).bind fun t16=>(EK P 68 h t3 t16).bind fun t17=>k t17
def Nc (t2 t3 t4:V) (h:List V):Rv:=lp W 117 0 (cd 117 143) (bk 0 (sk 117 0 63 (lv 117 0))) ⟨[(2,t2),(3,t3),(4,t4)],h⟩
def Uj (t3:V) (k:V→Rv):Rv:=
 (lenV P 68 (V.weak t3)).bind fun t19=>(AO .rem t19 (V.int .i64 64)).bind fun t20=>(AO .neq t20 (V.int .i64 56)).bind fun t21=>k t21
def AAh (t3:V) (h:List V) (k:V→Rv):Rv:=
 (Ew P 68 1 [(0,(V.int .u8 0))]).bind fun t23=>(EK P 68 h t3 t23).bind fun t24=>k t24
def AAi (k:V→Rv):Rv:=
 k (V.int .i64 0)
def Nh (t2 t3 t4 t25:V) (h:List V):Rv:=lp W 117 2 (cd 117 607) (bk 2 (sk 117 0 127 (lv 117 0))) ⟨[(2,t2),(3,t3),(4,t4),(25,t25)],h⟩
def Uk (t25:V) (k:V→Rv):Rv:=
 (AO .lss t25 (V.int .i64 8)).bind fun t26=>k t26
def AAj (t25:V) (k:V→Rv):Rv:=
 k t25
def AAk (t3 t4 t5:V) (h:List V) (k:V→Rv):Rv:=
 (AO .mul (V.int .i64 8) t5).bind fun t31=>(AO .sub (V.int .i64 56) t31).bind fun t32=>(conv P h 3 126 t32).bind fun t33=>(AO .shr t4 t33).bind fun t34=>(conv P h 93 5 t34).bind fun t35=>(Ew P 68 1 [(0,t35)]).bind fun t36=>(EK P 68 h t3 t36).bind fun t37=>k t37
def Vt (t25:V) (k:V→Rv):Rv:=
 (AO .add t25 (V.int .i64 1)).bind fun t38=>k t38
def Vu (h:List V) (k:V→List V→Rv):Rv:=
 (Aa h 184 (V.rop 184 RF)).bind fun t39=>(Ec P (h++[zero P 184]) 184 (V.ref (List.length h) [] 184) t39).bind fun a1=>k (V.ref (List.length h) [] 184) a1
def Nj (t2 t3 t6:V) (h:List V):Rv:=lp W 117 4 (cd 117 1151) (bk 4 (sk 117 0 511 (lv 117 0))) ⟨[(2,t2),(3,t3),(6,t6)],h⟩
def Om (t3:V) (k:V→Rv):Rv:=
 (lenV P 68 (V.weak t3)).bind fun t41=>(AO .gtr t41 (V.int .i64 0)).bind fun t42=>k t42
def Vw (t3 t6:V) (h:List V) (k:List V→Rv):Rv:=
 (Aa h 184 t6).bind fun t45=>(Jm P 68 (V.weak t3) none (some (V.int .i64 64)) none).bind fun t47=>(Cl 136 (AL h [t45,t47]) []).bind fun r=>(Ec P h 184 t6 r.1).bind fun a1=>k a1
def Vx (t3:V) (k:V→Rv):Rv:=
 (Jm P 68 t3 (some (V.int .i64 64)) none none).bind fun t44=>k t44
def Vy (h:List V) (k:V→List V→Rv):Rv:=
 k (V.ref (List.length h) [] 55) (h++[zero P 55])
def Vz (k:V→Rv):Rv:=
 k (V.int .i64 0)
def Nk (t2 t6 t7 t49:V) (h:List V):Rv:=lp W 117 6 (cd 117 9727) (bk 6 (sk 117 0 2047 (lv 117 0))) ⟨[(2,t2),(6,t6),(7,t7),(49,t49)],h⟩
def Oo (t49:V) (k:V→Rv):Rv:=
 (AO .lss t49 (V.int .i64 32)).bind fun t50=>k t50
def V3 (t49:V) (k:V→Rv):Rv:=
 k t49
def Oq (t6 t7 t8:V) (h:List V) (k:List V→Rv):Rv:=
 (AO .quo t8 (V.int .i64 4)).bind fun t54=>(Ag P 184 t6 t54).bind fun t55=>(Aa h 149 t55).bind fun t56=>(AO .rem t8 (V.int .i64 4)).bind fun t58=>(AO .mul (V.int .i64 8) t58).bind fun t59=>(AO .sub (V.int .i64 24) t59).bind fun t60=>(conv P h 3 126 t60).bind fun t61=>(AO .shr t56 t61).bind fun t62=>(conv P h 149 5 t62).bind fun t63=>(Ag P 55 t7 t8).bind fun t64=>(Ec P h 5 t64 t63).bind fun a1=>k a1
def V4 (t49:V) (k:V→Rv):Rv:=
 (AO .add t49 (V.int .i64 1)).bind fun t65=>k t65
def V5 (t2 t7:V) (h:List V) (k:List V→Rv):Rv:=
 (Aa h 55 t7).bind fun t66=>(Ec P h 55 t2 t66).bind fun a1=>k a1
theorem Ot (t2 t6 t7 t49:V) (h:List V):Nk t2 t6 t7 t49 h=
 Oo t49 fun a21=>
  V.ite a21
  (V3 t49 fun a22=>
  Oq t6 t7 a22 h fun a23=>
  V4 t49 fun a24=>
  Nk t2 t6 t7 a24 a23)
  (V5 t2 t7 h fun a25=>
  (Aa a25 55 t2).bind fun a26=>AV 0 a25 a26):=
 CX (by kernel_rfl)
theorem Ou (t2 t3 t6:V) (h:List V):Nj t2 t3 t6 h=
 Om t3 fun a15=>
  V.ite a15
  (Vw t3 t6 h fun a16=>
  Vx t3 fun a17=>
  Nj t2 a17 t6 a16)
  (Vy h fun a18 a19=>
  Vz fun a20=>
  Nk t2 t6 a18 a20 a19):=
 CX (by kernel_rfl)
theorem Ov (t2 t3 t4 t25:V) (h:List V):Nh t2 t3 t4 t25 h=
 Uk t25 fun a9=>
  V.ite a9
  (AAj t25 fun a10=>
  AAk t3 t4 a10 h fun a11=>
  Vt t25 fun a12=>
  Nh t2 a11 t4 a12 h)
  (Vu h fun a13 a14=>
  Nj t2 t3 a13 a14):=
 CX (by kernel_rfl)
theorem Ox (t2 t3 t4:V) (h:List V):Nc t2 t3 t4 h=
 Uj t3 fun a6=>
  V.ite a6
  (AAh t3 h fun a7=>
  Nc t2 a7 t4 h)
  (AAi fun a8=>
  Nh t2 t3 t4 a8 h):=
 CX (by kernel_rfl)
theorem AHh (t0:V):Cl 117 [t0] []=
 AAd [] fun a1 a2=>
  AAe t0 a2 fun a3=>
  AAf a3 a2 fun a4=>
  AAg a3 a2 fun a5=>
  Nc a1 a5 a4 a2:=
 BF (by kernel_rfl)
def AAl (h:List V) (k:V→List V→Rv):Rv:=
 k (V.ref (List.length h) [] 55) (h++[zero P 55])
def AAm (t0 t2:V) (h:List V) (k:List V→Rv):Rv:=
 (Ew P 68 1 [(0,(V.int .u8 0))]).bind fun t3=>(conv P h 9 68 t0).bind fun t5=>(Ew P 182 2 [(0,t3),(1,t5)]).bind fun t6=>(Cl 117 (AL h [t6]) []).bind fun r=>(Ec P h 55 t2 r.1).bind fun a1=>k a1
theorem AHi (t0:V):Cl 118 [t0] []=
 AAl [] fun a1 a2=>
  AAm t0 a1 a2 fun a3=>
  (Aa a3 55 a1).bind fun a4=>AV 0 a3 a4:=
 BF (by kernel_rfl)
def Nl (t0 t3:V):Rv:=lp W 119 0 (cd 119 71) (bk 0 (sk 119 0 31 (lv 119 0))) ⟨[(0,t0),(3,t3)],[]⟩
theorem Yi (t0 t3:V):Nl t0 t3=
 (AO .sub t0 t3).bind fun a2=>(AO .lss t3 a2).bind fun a3=>V.ite a3
  ((AO .mul t3 (V.int .i64 2)).bind fun a4=>Nl t0 a4)
  (AV 0 [] t3):=
 CX (by kernel_rfl)
theorem AHj (t0:V):Cl 119 [t0] []=
 (AO .lss t0 (V.int .i64 2)).bind fun a1=>V.ite a1
  (AV 0 [] (V.int .i64 0))
  (Nl t0 (V.int .i64 1)):=
 BF (by kernel_rfl)
theorem AHk (t0 t1:V):Cl 120 [t0,t1] []=
 if((BK 54) t0&&V.under 0 t0)=true then if((BK 54) t1&&V.under 1 t1)=true then(LX 5 false (ck [(NZ .u8) (V.int .u8 1)] [(V.int .u8 1)])).bind fun a1=>(slA 55 54 32 5 (V.ref 0 [] 55) none none none).bind fun a2=>(slA 55 54 32 5 (V.ref 1 [] 55) none none none).bind fun a3=>(LX 68 true (ck [(JS 5) a1,(JS 5) a2,(JS 5) a3] [(V.weak a1),(V.weak a2),(V.weak a3)])).bind fun a4=>(Cl 117 (AL [t0,t1,(V.agg 54 (List.replicate 32 (V.int .u8 0)))] [a4]) []).bind fun a5=>(Cc (BK 54) 55 [t0,t1,(V.agg 54 (List.replicate 32 (V.int .u8 0)))] (V.ref 2 [] 55) a5.1).bind fun a6=>(Aa a6 55 (V.ref 2 [] 55)).bind fun a7=>AV 0 a6 a7 else none else none:=
 BF (by kernel_rfl)
theorem AHl (t0:V):Cl 121 [t0] []=
 jn (fun a1=>
 AV 0 [] a1) (fun(a2:V→Rv)=>(AO .gtr t0 (V.int .i64 1125899906842624)).bind fun a3=>V.ite a3 (a2 (V.bool true)) ((AO .lss t0 (V.int .i64 (-1125899906842624))).bind fun a4=>a2 a4)):=
 BF (by kernel_rfl)
def AAn (k:Rv):Rv:=
 k
def AAo (t0:V) (k:V→Rv):Rv:=
 (YP t0 (V.int .u64 64)).bind fun t4=>(conv P [] 93 3 t4).bind fun t5=>k t5
theorem AHm (t0:V):Cl 130 [t0] []=
 AAn (AAo t0 fun a1=>
  AV 0 [] a1):=
 BF (by kernel_rfl)
def AAp (k:Rv):Rv:=
 k
def AAq (t0:V) (h:List V) (k:V→List V→Rv):Rv:=
 (Cl 55 (AP [t0]) h).bind fun r=>k r.1 r.2
def AAr (t3:V) (h:List V) (k:V→Rv):Rv:=
 (AO .shr t3 (V.int .u64 1)).bind fun t7=>(conv P h 93 2 t7).bind fun t8=>(AO .and t3 (V.int .u64 1)).bind fun t10=>(conv P h 93 2 t10).bind fun t11=>(un .neg t11).bind fun t12=>(AO .xor t8 t12).bind fun t13=>k t13
theorem AHn (t0:V) (h:List V):Cl 131 [t0] h=
 AAp (AAq t0 h fun a1 a2=>
  AAr a1 a2 fun a3=>
  AV (List.length h) a2 a3):=
 BF (by kernel_rfl)
def AAs (k:Rv):Rv:=
 k
def AAt (t0:V) (k:V→Rv):Rv:=
 (lenV P 182 (V.weak t0)).bind fun t13=>(AO .eql t13 (V.int .i64 0)).bind fun t14=>k t14
def AHo (h:List V) (k:V→List V→Rv):Rv:=
 (Ew P 68 0 []).bind fun v=>(Dz h v).bind fun r=>k r.1 r.2
def AAu (t0:V) (k:V→Rv):Rv:=
 (lenV P 182 (V.weak t0)).bind fun t17=>(AO .eql t17 (V.int .i64 1)).bind fun t18=>k t18
def AAv (t0:V) (h:List V) (k:V→List V→Rv):Rv:=
 (Ag P 182 t0 (V.int .i64 0)).bind fun t20=>(BA h 68 t20).bind fun t21=>(EK P 68 h (V.lst 5 .nil []) t21).bind fun v=>(Dz h v).bind fun r=>k r.1 r.2
def AAw (k:V→Rv):Rv:=
 k (V.int .i64 0)
def AAx (t1:V) (k:V→Rv):Rv:=
 (lenV P 68 (V.weak t1)).bind fun t24=>(AO .gtr t24 (V.int .i64 0)).bind fun t25=>k t25
def V6 (t0:V) (k:V→V→V→Rv):Rv:=
 (lenV P 182 (V.weak t0)).bind fun t43=>k (V.weak t0) t43 (V.int .i64 0)
def Np (t0 t1 t5 t42 t43 t44:V) (h:List V):Rv:=lp W 135 0 (cd 135 607) (bk 0 (sk 135 0 127 (lv 135 0))) ⟨[(0,t0),(1,t1),(5,t5),(42,t42),(43,t43),(44,t44)],h⟩
def Oy (t43 t44:V) (k:V→Rv):Rv:=
 (AO .lss t44 t43).bind fun t45=>k t45
def V7 (t42 t44:V) (h:List V) (k:V→Rv):Rv:=
 (Ag P 182 t42 t44).bind fun t46=>(BA h 68 t46).bind fun t47=>k t47
def V8 (t5 t7:V) (k:V→Rv):Rv:=
 (lenV P 68 (V.weak t7)).bind fun t49=>(AO .sub (V.int .i64 9223372036854775807) t5).bind fun t51=>(AO .gtr t49 t51).bind fun t52=>k t52
def V9 (t5 t7:V) (k:V→Rv):Rv:=
 (lenV P 68 t7).bind fun t56=>(AO .add t5 t56).bind fun t57=>k t57
def WA (t44:V) (k:V→Rv):Rv:=
 (AO .add t44 (V.int .i64 1)).bind fun t58=>k t58
def WB (t5:V) (h:List V) (k:V→List V→Rv):Rv:=
 mnz P 0 155 [t5] h fun t60 a1=>(Jm P 68 t60 none (some t5) (some t5)).bind fun t63=>k t63 a1
def WC (t0 t8:V) (h:List V) (k:V→List V→Rv):Rv:=
 (Ag P 182 (V.weak t0) (V.int .i64 0)).bind fun t66=>(BA h 68 t66).bind fun t67=>(cpy P 68 h (V.weak t8) t67).bind fun r=>k r.1 r.2
def WE (t0:V) (k:V→V→V→Rv):Rv:=
 (Jm P 182 t0 (some (V.int .i64 1)) none none).bind fun t70=>(lenV P 182 t70).bind fun t71=>k t70 t71 (V.int .i64 0)
def Nq (t1 t8 t9 t70 t71 t72:V) (h:List V):Rv:=lp W 135 2 (cd 135 4863) (bk 2 (sk 135 0 1023 (lv 135 0))) ⟨[(1,t1),(8,t8),(9,t9),(70,t70),(71,t71),(72,t72)],h⟩
def Oz (t71 t72:V) (k:V→Rv):Rv:=
 (AO .lss t72 t71).bind fun t73=>k t73
def WH (t70 t72:V) (h:List V) (k:V→Rv):Rv:=
 (Ag P 182 t70 t72).bind fun t74=>(BA h 68 t74).bind fun t75=>k t75
def WI (t1 t8 t9:V) (h:List V) (k:V→List V→Rv):Rv:=
 (Jm P 68 (V.weak t8) (some t9) none none).bind fun t79=>(cpy P 68 h t79 (V.weak t1)).bind fun r=>(AO .add t9 r.1).bind fun t82=>k t82 r.2
def WJ (t8 t9 t11:V) (h:List V) (k:V→List V→Rv):Rv:=
 (Jm P 68 (V.weak t8) (some t9) none none).bind fun t86=>(cpy P 68 h t86 t11).bind fun r=>(AO .add t9 r.1).bind fun t89=>k t89 r.2
def WL (t72:V) (k:V→Rv):Rv:=
 (AO .add t72 (V.int .i64 1)).bind fun t90=>k t90
def WM (t8:V) (k:V→Rv):Rv:=
 k t8
theorem O0 (t1 t8 t9 t70 t71 t72:V) (h:List V):Nq t1 t8 t9 t70 t71 t72 h=
 Oz t71 t72 fun a25=>
  V.ite a25
  (WH t70 t72 h fun a26=>
  WI t1 t8 t9 h fun a27 a28=>
  WJ t8 a27 a26 a28 fun a29 a30=>
  WL t72 fun a31=>
  Nq t1 t8 a29 t70 t71 a31 a30)
  (WM t8 fun a32=>
  NT 0 h a32):=
 CX (by kernel_rfl)
theorem O3 (t0 t1 t5 t42 t43 t44:V) (h:List V):Np t0 t1 t5 t42 t43 t44 h=
 Oy t43 t44 fun a13=>
  V.ite a13
  (V7 t42 t44 h fun a14=>
  V8 t5 a14 fun a15=>
  V.ite a15
  (none)
  (V9 t5 a14 fun a16=>
  WA t44 fun a17=>
  Np t0 t1 a16 t42 t43 a17 h))
  (WB t5 h fun a18 a19=>
  WC t0 a18 a19 fun a20 a21=>
  WE t0 fun a22 a23 a24=>
  Nq t1 a18 a20 a22 a23 a24 a21):=
 CX (by kernel_rfl)
def AHp (t0 t1:V) (k:V→Rv):Rv:=
 (lenV P 68 (V.weak t1)).bind fun t27=>(lenV P 182 (V.weak t0)).bind fun t29=>(AO .sub t29 (V.int .i64 1)).bind fun t30=>(AO .quo (V.int .i64 9223372036854775807) t30).bind fun t31=>(AO .geq t27 t31).bind fun t32=>k t32
def AHq (t0 t1 t5:V) (k:V→Rv):Rv:=
 (lenV P 68 (V.weak t1)).bind fun t36=>(lenV P 182 (V.weak t0)).bind fun t38=>(AO .sub t38 (V.int .i64 1)).bind fun t39=>(AO .mul t36 t39).bind fun t40=>(AO .add t5 t40).bind fun t41=>k t41
theorem AHr (t0 t1:V):Cl 135 [t0,t1] []=
 AAs (AAt t0 fun a1=>
  V.ite a1
  (AHo [] fun a2 a3=>
  NT 0 a3 a2)
  (AAu t0 fun a4=>
  V.ite a4
  (AAv t0 [] fun a5 a6=>
  NT 0 a6 a5)
  (AAw fun a7=>
  AAx t1 fun a8=>
  jn (fun a9=>V6 t0 fun a10 a11 a12=>
  Np t0 t1 a9 a10 a11 a12 [])
  (fun(j0:V→Rv)=>V.ite a8
  (AHp t0 t1 fun a33=>
  V.ite a33
  (none)
  (AHq t0 t1 a7 fun a34=>
  j0 a34))
  (j0 a7))))):=
 BF (KI<|Vq (fun K=>K ⟨[(0,t0),(1,t1)],[]⟩) (Jo<|KI<|KI<|Vq (fun K u14=>K ⟨[(0,t0),(1,t1),(14,u14)],[]⟩) (funext fun a1=>Jo<|YT (by kernel_rfl) (ADh<|Jo<|KI<|KI<|Vq (fun K u18=>K ⟨[(0,t0),(1,t1),(18,u18)],[]⟩) (funext fun a4=>Jo<|YT (by kernel_rfl) (ADh<|Jo<|KI<|Vq (fun K u5=>K ⟨[(0,t0),(1,t1),(5,u5)],[]⟩) (funext fun a7=>Jo<|KI<|KI<|Vq (fun K u25=>K ⟨[(0,t0),(1,t1),(5,a7),(25,u25)],[]⟩) (funext fun a8=>Jo<|AP9 (fun K a9=>K ⟨[(0,t0),(1,t1),(5,a9)],[]⟩) (funext fun a9=>by kernel_rfl) (YT (by kernel_rfl) (by kernel_rfl))))))))))
def AAy (t0:V) (h:List V) (k:V→V→List V→Rv):Rv:=
 if(BN P 184 t0&&V.under (List.length h) t0)=true then k (V.ref (List.length h) [] 184) (V.ref (List.length (h++[t0])) [] 184) ((h++[t0])++[zero P 184])else none
def AAz (h:List V) (k:V→List V→Rv):Rv:=
 k (V.ref (List.length h) [] 204) (h++[zero P 204])
def AA0 (k:V→Rv):Rv:=
 k (V.int .i64 0)
def Nr (t1 t2 t4 t5 t23:V) (h:List V):Rv:=lp W 136 0 (cd 136 75) (bk 0 (sk 136 0 15 (lv 136 0))) ⟨[(1,t1),(2,t2),(4,t4),(5,t5),(23,t23)],h⟩
def Ul (t23:V) (k:V→Rv):Rv:=
 (AO .lss t23 (V.int .i64 16)).bind fun t24=>k t24
def AA1 (t23:V) (k:V→Rv):Rv:=
 k t23
def AA2 (t1 t6:V) (k:V→Rv):Rv:=
 (AO .mul (V.int .i64 4) t6).bind fun t28=>(AO .mul (V.int .i64 4) t6).bind fun t30=>(AO .add t30 (V.int .i64 4)).bind fun t31=>(Jm P 68 (V.weak t1) (some t28) (some t31) none).bind fun t32=>k t32
def Um (t5 t6 t7:V) (h:List V) (k:List V→Rv):Rv:=
 (Ag P 68 (V.weak t7) (V.int .i64 0)).bind fun t35=>(Aa h 5 t35).bind fun t36=>(conv P h 5 149 t36).bind fun t37=>(AO .shl t37 (V.int .u64 24)).bind fun t38=>(Ag P 68 (V.weak t7) (V.int .i64 1)).bind fun t40=>(Aa h 5 t40).bind fun t41=>(conv P h 5 149 t41).bind fun t42=>(AO .shl t42 (V.int .u64 16)).bind fun t43=>(AO .or t38 t43).bind fun t44=>(Ag P 68 (V.weak t7) (V.int .i64 2)).bind fun t46=>(Aa h 5 t46).bind fun t47=>(conv P h 5 149 t47).bind fun t48=>(AO .shl t48 (V.int .u64 8)).bind fun t49=>(AO .or t44 t49).bind fun t50=>(Ag P 68 (V.weak t7) (V.int .i64 3)).bind fun t52=>(Aa h 5 t52).bind fun t53=>(conv P h 5 149 t53).bind fun t54=>(AO .or t50 t54).bind fun t55=>(Ag P 204 t5 t6).bind fun t56=>(Ec P h 149 t56 t55).bind fun a1=>k a1
def AA3 (t23:V) (k:V→Rv):Rv:=
 (AO .add t23 (V.int .i64 1)).bind fun t57=>k t57
def AA4 (k:V→Rv):Rv:=
 k (V.int .i64 16)
def Ns (t2 t4 t5 t8:V) (h:List V):Rv:=lp W 136 2 (cd 136 151) (bk 2 (sk 136 0 31 (lv 136 0))) ⟨[(2,t2),(4,t4),(5,t5),(8,t8)],h⟩
def Un (t8:V) (k:V→Rv):Rv:=
 (AO .lss t8 (V.int .i64 64)).bind fun t59=>k t59
def O4 (t5 t8:V) (h:List V) (k:V→Rv):Rv:=
 (AO .sub t8 (V.int .i64 15)).bind fun t63=>(Ag P 204 t5 t63).bind fun t64=>(Aa h 149 t64).bind fun t65=>(Cl 156 (AL h [t65,(V.int .i64 7)]) []).bind fun r=>(AO .sub t8 (V.int .i64 15)).bind fun t68=>(Ag P 204 t5 t68).bind fun t69=>(Aa h 149 t69).bind fun t70=>(Cl 156 (AL h [t70,(V.int .i64 18)]) []).bind fun a1=>(AO .xor r.1 a1.1).bind fun t72=>(AO .sub t8 (V.int .i64 15)).bind fun t74=>(Ag P 204 t5 t74).bind fun t75=>(Aa h 149 t75).bind fun t76=>(AO .shr t76 (V.int .u64 3)).bind fun t77=>(AO .xor t72 t77).bind fun t78=>k t78
def O5 (t5 t8:V) (h:List V) (k:V→Rv):Rv:=
 (AO .sub t8 (V.int .i64 2)).bind fun t80=>(Ag P 204 t5 t80).bind fun t81=>(Aa h 149 t81).bind fun t82=>(Cl 156 (AL h [t82,(V.int .i64 17)]) []).bind fun r=>(AO .sub t8 (V.int .i64 2)).bind fun t85=>(Ag P 204 t5 t85).bind fun t86=>(Aa h 149 t86).bind fun t87=>(Cl 156 (AL h [t87,(V.int .i64 19)]) []).bind fun a1=>(AO .xor r.1 a1.1).bind fun t89=>(AO .sub t8 (V.int .i64 2)).bind fun t91=>(Ag P 204 t5 t91).bind fun t92=>(Aa h 149 t92).bind fun t93=>(AO .shr t93 (V.int .u64 10)).bind fun t94=>(AO .xor t89 t94).bind fun t95=>k t95
def O6 (t5 t8 t9 t10:V) (h:List V) (k:List V→Rv):Rv:=
 (AO .sub t8 (V.int .i64 16)).bind fun t98=>(Ag P 204 t5 t98).bind fun t99=>(Aa h 149 t99).bind fun t100=>(AO .sub t8 (V.int .i64 7)).bind fun t102=>(Ag P 204 t5 t102).bind fun t103=>(Aa h 149 t103).bind fun t104=>(AO .add t100 t104).bind fun t105=>(AO .add t105 t9).bind fun t107=>(AO .add t107 t10).bind fun t109=>(Ag P 204 t5 t8).bind fun t110=>(Ec P h 149 t110 t109).bind fun a1=>k a1
def WN (t8:V) (k:V→Rv):Rv:=
 (AO .add t8 (V.int .i64 1)).bind fun t61=>k t61
def WO (t2:V) (h:List V) (k:V→List V→Rv):Rv:=
 (Aa h 184 t2).bind fun t111=>(Ec P (h++[zero P 184]) 184 (V.ref (List.length h) [] 184) t111).bind fun a1=>k (V.ref (List.length h) [] 184) a1
def AE8 (k:V→Rv):Rv:=
 k (V.int .i64 0)
def Nu (t2 t4 t5 t11 t112:V) (h:List V):Rv:=lp W 136 4 (cd 136 607) (bk 4 (sk 136 0 127 (lv 136 0))) ⟨[(2,t2),(4,t4),(5,t5),(11,t11),(112,t112)],h⟩
def O7 (t112:V) (k:V→Rv):Rv:=
 (AO .lss t112 (V.int .i64 64)).bind fun t113=>k t113
def WQ (t112:V) (k:V→Rv):Rv:=
 k t112
def O8 (t11:V) (h:List V) (k:V→V→V→V→V→V→Rv):Rv:=
 (Ag P 184 t11 (V.int .i64 0)).bind fun t115=>(Aa h 149 t115).bind fun t116=>(Ag P 184 t11 (V.int .i64 1)).bind fun t117=>(Aa h 149 t117).bind fun t118=>(Ag P 184 t11 (V.int .i64 2)).bind fun t119=>(Aa h 149 t119).bind fun t120=>(Ag P 184 t11 (V.int .i64 4)).bind fun t121=>(Aa h 149 t121).bind fun t122=>(Ag P 184 t11 (V.int .i64 5)).bind fun t123=>(Aa h 149 t123).bind fun t124=>(Ag P 184 t11 (V.int .i64 6)).bind fun t125=>(Aa h 149 t125).bind fun t126=>k t116 t118 t120 t122 t124 t126
def O9 (t5 t11 t12 t16 t17 t18:V) (h:List V) (k:V→Rv):Rv:=
 (Ag P 184 t11 (V.int .i64 7)).bind fun t127=>(Aa h 149 t127).bind fun t128=>(Cl 156 (AL h [t16,(V.int .i64 6)]) []).bind fun r=>(Cl 156 (AL h [t16,(V.int .i64 11)]) []).bind fun a1=>(AO .xor r.1 a1.1).bind fun t133=>(Cl 156 (AL h [t16,(V.int .i64 25)]) []).bind fun a2=>(AO .xor t133 a2.1).bind fun t136=>(AO .add t128 t136).bind fun t137=>(AO .xor t17 t18).bind fun t142=>(AO .and t16 t142).bind fun t143=>(AO .xor t18 t143).bind fun t144=>(AO .add t137 t144).bind fun t145=>(Ag P 204 (V.rop 204 OX) t12).bind fun t147=>(Aa h 149 t147).bind fun t148=>(AO .add t145 t148).bind fun t149=>(Ag P 204 t5 t12).bind fun t151=>(Aa h 149 t151).bind fun t152=>(AO .add t149 t152).bind fun t153=>k t153
def PD (t13 t14 t15:V) (h:List V) (k:V→Rv):Rv:=
 (Cl 156 (AL h [t13,(V.int .i64 2)]) []).bind fun r=>(Cl 156 (AL h [t13,(V.int .i64 13)]) []).bind fun a1=>(AO .xor r.1 a1.1).bind fun t158=>(Cl 156 (AL h [t13,(V.int .i64 22)]) []).bind fun a2=>(AO .xor t158 a2.1).bind fun t161=>(AO .and t13 t14).bind fun t164=>(AO .or t13 t14).bind fun t168=>(AO .and t15 t168).bind fun t169=>(AO .or t164 t169).bind fun t170=>(AO .add t161 t170).bind fun t171=>k t171
def PE (t11 t13 t14 t15 t16 t17 t18 t19 t20:V) (h:List V) (k:List V→Rv):Rv:=
 (AO .add t19 t20).bind fun t174=>(Ag P 184 t11 (V.int .i64 3)).bind fun t178=>(Aa h 149 t178).bind fun t179=>(AO .add t179 t19).bind fun t181=>(YO P 184 [(0,t174),(1,t13),(2,t14),(3,t15),(4,t181),(5,t16),(6,t17),(7,t18)]).bind fun t185=>(Ec P h 184 t11 t185).bind fun a1=>k a1
def WR (t112:V) (k:V→Rv):Rv:=
 (AO .add t112 (V.int .i64 1)).bind fun t186=>k t186
def WS (t11:V) (h:List V) (k:V→V→Rv):Rv:=
 (Aa h 184 t11).bind fun t187=>k t187 (V.int .i64 0)
def Nv (t2 t4 t187 t188:V) (h:List V):Rv:=lp W 136 6 (cd 136 1215) (bk 6 (sk 136 0 255 (lv 136 0))) ⟨[(2,t2),(4,t4),(187,t187),(188,t188)],h⟩
def PG (t188:V) (k:V→Rv):Rv:=
 (AO .lss t188 (V.int .i64 8)).bind fun t189=>k t189
def WT (t187 t188:V) (k:V→V→Rv):Rv:=
 (G7 P 184 t187 t188).bind fun t191=>k t188 t191
def WU (t2 t21 t22:V) (h:List V) (k:List V→Rv):Rv:=
 (Ag P 184 t2 t21).bind fun t193=>(Aa h 149 t193).bind fun t194=>(AO .add t194 t22).bind fun t196=>(Ag P 184 t2 t21).bind fun t197=>(Ec P h 149 t197 t196).bind fun a1=>k a1
def WV (t188:V) (k:V→Rv):Rv:=
 (AO .add t188 (V.int .i64 1)).bind fun t198=>k t198
def WW (t2 t4:V) (h:List V) (k:List V→Rv):Rv:=
 (Aa h 184 t2).bind fun t199=>(Ec P h 184 t4 t199).bind fun a1=>k a1
theorem PI (t2 t4 t187 t188:V) (h:List V):Nv t2 t4 t187 t188 h=
 PG t188 fun a35=>
  V.ite a35
  (WT t187 t188 fun a36 a37=>
  WU t2 a36 a37 h fun a38=>
  WV t188 fun a39=>
  Nv t2 t4 t187 a39 a38)
  (WW t2 t4 h fun a40=>
  (Aa a40 184 t4).bind fun a41=>AV 0 a40 a41):=
 CX (by kernel_rfl)
theorem PK (t2 t4 t5 t11 t112:V) (h:List V):Nu t2 t4 t5 t11 t112 h=
 O7 t112 fun a21=>
  V.ite a21
  (WQ t112 fun a22=>
  O8 t11 h fun a23 a24 a25 a26 a27 a28=>
  O9 t5 t11 a22 a26 a27 a28 h fun a29=>
  PD a23 a24 a25 h fun a30=>
  PE t11 a23 a24 a25 a26 a27 a28 a29 a30 h fun a31=>
  WR t112 fun a32=>
  Nu t2 t4 t5 t11 a32 a31)
  (WS t11 h fun a33 a34=>
  Nv t2 t4 a33 a34 h):=
 CX (by kernel_rfl)
theorem PL (t2 t4 t5 t8:V) (h:List V):Ns t2 t4 t5 t8 h=
 Un t8 fun a13=>
  V.ite a13
  (O4 t5 t8 h fun a14=>
  O5 t5 t8 h fun a15=>
  O6 t5 t8 a14 a15 h fun a16=>
  WN t8 fun a17=>
  Ns t2 t4 t5 a17 a16)
  (WO t2 h fun a18 a19=>
  AE8 fun a20=>
  Nu t2 t4 t5 a18 a20 a19):=
 CX (by kernel_rfl)
theorem PN (t1 t2 t4 t5 t23:V) (h:List V):Nr t1 t2 t4 t5 t23 h=
 Ul t23 fun a7=>
  V.ite a7
  (AA1 t23 fun a8=>
  AA2 t1 a8 fun a9=>
  Um t5 a8 a9 h fun a10=>
  AA3 t23 fun a11=>
  Nr t1 t2 t4 t5 a11 a10)
  (AA4 fun a12=>
  Ns t2 t4 t5 a12 h):=
 CX (by kernel_rfl)
theorem AHs (t0 t1:V):Cl 136 [t0,t1] []=
 AAy t0 [] fun a1 a2 a3=>
  AAz a3 fun a4 a5=>
  AA0 fun a6=>
  Nr t1 a1 a2 a4 a6 a5:=
 BF (by kernel_rfl)
def AA5 (k:Rv):Rv:=
 k
def AA6 (t0 t1:V) (k:V→Rv):Rv:=
 (un .neg t1).bind fun t7=>(Cl 172 (AL [] [t0,t7]) []).bind fun r=>k r.1
theorem AHt (t0 t1:V):Cl 156 [t0,t1] []=
 AA5 (AA6 t0 t1 fun a1=>
  AV 0 [] a1):=
 BF (by kernel_rfl)
def AA7 (k:Rv):Rv:=
 k
def AA8 (t1:V) (k:V→Rv):Rv:=
 (conv P [] 3 126 t1).bind fun t7=>(AO .and t7 (V.int .u64 31)).bind fun t8=>k t8
def AA9 (t0 t5:V) (k:V→Rv):Rv:=
 (AO .shl t0 t5).bind fun t11=>(AO .sub (V.int .u64 32) t5).bind fun t14=>(AO .shr t0 t14).bind fun t15=>(AO .or t11 t15).bind fun t16=>k t16
theorem AHu (t0 t1:V):Cl 172 [t0,t1] []=
 AA7 (AA8 t1 fun a1=>
  AA9 t0 a1 fun a2=>
  AV 0 [] a2):=
 BF (by kernel_rfl)
end
end Go.Proofs.YtiegkempfolgcaaGreatDoor
