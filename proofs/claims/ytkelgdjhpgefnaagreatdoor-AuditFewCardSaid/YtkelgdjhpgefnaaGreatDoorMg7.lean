/-
  Part of the proof of a statement about the given program: an abstract machine over its code, the simulation, its functions' equations, what they compute.
-/
import Derived.Test.YtkelgdjhpgefnaaGreatDoorMg6
set_option linter.unusedVariables false
set_option linter.unusedSimpArgs false
set_option linter.unusedSectionVars false
set_option maxRecDepth 100000
noncomputable section
namespace Go.Proofs.YtkelgdjhpgefnaaGreatDoor
section
open Go AM
def RV (t0 t1 t7 t8:V):Rv:=lp W 4 0 (cd 4 151) (bk 0 (sk 4 0 31 (lv 4 0))) ⟨[(0,t0),(1,t1),(7,t7),(8,t8)],[]⟩
theorem OQ (t0 t1 t7 t8:V):RV t0 t1 t7 t8=
 (VG (V.weak t7)).bind fun a6=>(AO .lss t8 a6).bind fun a7=>V.ite a7
  (jn (fun a8=>
 V.ite a8
  (Bh 0 [] (V.bool false))
  ((AO .add t8 (V.int .i64 1)).bind fun a9=>RV t0 t1 t7 a9)) (fun(a10:V→Rv)=>(Tm 3 (V.weak t7) t8).bind fun a11=>(BI [] 3 a11).bind fun a12=>(AO .lss a12 (V.int .i64 0)).bind fun a13=>V.ite a13 (a10 (V.bool true)) ((Tm 3 (V.weak t7) t8).bind fun a14=>(BI [] 3 a14).bind fun a15=>(AO .geq a15 t0).bind fun a16=>V.ite a16 (a10 (V.bool true)) ((AO .gtr t8 (V.int .i64 0)).bind fun a17=>V.ite a17 ((AO .sub t8 (V.int .i64 1)).bind fun a18=>(Tm 3 (V.weak t7) a18).bind fun a19=>(BI [] 3 a19).bind fun a20=>(Tm 3 (V.weak t7) t8).bind fun a21=>(BI [] 3 a21).bind fun a22=>(AO .geq a20 a22).bind fun a23=>a10 a23) (a10 (V.bool false))))))
  (jn (fun a24=>
 V.ite a24
  ((VG t7).bind fun a25=>(AO .eql a25 (V.int .i64 0)).bind fun a26=>Bh 0 [] a26)
  (jn (fun a27=>
 V.ite a27
  ((VG t7).bind fun a28=>(AO .eql a28 t0).bind fun a29=>Bh 0 [] a29)
  (jn (fun a30=>
 Bh 0 [] a30) (fun(a31:V→Rv)=>(VG (V.weak t7)).bind fun a32=>(AO .leq a32 t1).bind fun a33=>V.ite a33 ((AO .eql t1 (V.int .i64 0)).bind fun a34=>V.ite a34 (a31 (V.bool true)) ((VG t7).bind fun a35=>(AO .gtr a35 (V.int .i64 0)).bind fun a36=>a31 a36)) (a31 (V.bool false))))) (fun(a37:V→Rv)=>(AO .lss t1 (V.int .i64 0)).bind fun a38=>V.ite a38 (a37 (V.bool true)) ((AO .geq t1 t0).bind fun a39=>a37 a39)))) (fun(a40:V→Rv)=>(AO .lss t0 (V.int .i64 1)).bind fun a41=>V.ite a41 (a40 (V.bool true)) ((AO .gtr t0 (V.int .i64 64)).bind fun a42=>a40 a42))):=
 IL (by kernel_rfl)
theorem VL (t0 t1 t2:V):Cl 4 [t0,t1,t2] []=
 jn (fun a1=>
 V.ite a1
  ((Cl 5 (AP [] []) []).bind fun a2=>Bh 0 [] a2.1)
  ((bsL 58 false (ck [] [])).bind fun a3=>(VI 58 (tyI .u32) false [] a3 t2).bind fun a4=>(Cl 7 (AP [] [t0,t1,a4]) []).bind fun a5=>RV t0 t1 a5.1 (V.int .i64 0))) (fun(a43:V→Rv)=>(Cl 5 (AP [] []) []).bind fun a44=>(un .not a44.1).bind fun a45=>V.ite a45 (a43 (V.bool true)) ((VG (V.weak t2)).bind fun a46=>(AO .gtr a46 (V.int .i64 100)).bind fun a47=>V.ite a47 (a43 (V.bool true)) ((AO .gtr t1 (V.int .i64 100)).bind fun a48=>a43 a48))):=
 OL (by kernel_rfl)
def OT (t7 t8 t17 t18:V) (h:List V):Rv:=lp W 7 0 (cd 7 303) (bk 0 (sk 7 0 63 (lv 7 0))) ⟨[(7,t7),(8,t8),(17,t17),(18,t18)],h⟩
theorem Ji (t7 t8 t17 t18:V) (h:List V):OT t7 t8 t17 t18 h=
 (AO .lss t18 t17).bind fun a4=>V.ite a4
  (CX P EQ W t7 [t18] h fun a5 a6=>if V.noOwn a5=true then V.ite a5
  ((bsL 3 false (ck [(tyI .i64) t18] [t18])).bind fun a7=>(VI 3 (tyI .i64) false a6 t8 a7).bind fun a8=>(AO .add t18 (V.int .i64 1)).bind fun a9=>OT t7 a8 t17 a9 a6)
  ((AO .add t18 (V.int .i64 1)).bind fun a10=>OT t7 t8 t17 a10 a6)else none)
  (Bh 0 h t8):=
 IL (by kernel_rfl)
theorem VN (t0 t1 t2:V):Cl 7 [t0,t1,t2] []=
 if((tyI .i64) t0&&V.under 0 t0)=true then if((tyI .i64) t1&&V.under 1 t1)=true then if((tyL 58) (V.weak t2)&&V.under 2 (V.weak t2))=true then jn (fun a1=>
 V.ite a1
  (Bh 0 [t0,t1,(V.weak t2)] (V.weak (V.lst 3 .nil [])))
  ((if(List.all [(V.ref 1 [] 3),(V.ref 0 [] 3),(V.ref 2 [] 22)] V.capOk)=true then some (V.clo 16 [(V.ref 1 [] 3),(V.ref 0 [] 3),(V.ref 2 [] 22)])else none).bind fun a2=>(BI [t0,t1,(V.weak t2)] 3 (V.ref 0 [] 3)).bind fun a3=>OT a2 (V.weak (V.lst 3 .nil [])) a3 (V.int .i64 0) [t0,t1,(V.weak t2)])) (fun(a11:V→Rv)=>(BI [t0,t1,(V.weak t2)] 3 (V.ref 0 [] 3)).bind fun a12=>(AO .lss a12 (V.int .i64 1)).bind fun a13=>V.ite a13 (a11 (V.bool true)) ((BI [t0,t1,(V.weak t2)] 3 (V.ref 0 [] 3)).bind fun a14=>(AO .gtr a14 (V.int .i64 64)).bind fun a15=>a11 a15))else none else none else none:=
 OL (by kernel_rfl)
def NJ (t0 t2 t3 t15 t16:V) (n:Nat) (h:List V):Rv:=lp W 16 0 (cd 16 75) (bk 0 (sk 16 0 15 (lv 16 n))) ⟨[(0,t0),(2,t2),(3,t3),(15,t15),(16,t16)],h⟩
theorem ES (t0 t2 t3 t15 t16:V) (n:Nat) (h:List V):NJ t0 t2 t3 t15 t16 n h=
 (AO .lss t16 t15).bind fun a3=>V.ite a3
  ((GH h 22 t3).bind fun a4=>(VG a4).bind fun a5=>(AO .lss t16 a5).bind fun a6=>jn (fun a7=>(BI h 3 t2).bind fun a8=>(VH .u32 a8).bind fun a9=>(AO .rem a7 a9).bind fun a10=>(VH .i64 a10).bind fun a11=>(AO .eql a11 t0).bind fun a12=>V.ite a12
  (Bh n h (V.bool true))
  ((AO .add t16 (V.int .i64 1)).bind fun a13=>NJ t0 t2 t3 t15 a13 n h))
  (fun(j0:V→Rv)=>V.ite a6
  ((GH h 22 t3).bind fun a14=>(Tm 58 a14 t16).bind fun a15=>(BI h 58 a15).bind fun a16=>j0 a16)
  (j0 (V.int .u32 0))))
  (Bh n h (V.bool false)):=
 IL (by kernel_rfl)
theorem QY (t0 t1 t2 t3:V) (h:List V):Cl 16 [t0,t1,t2,t3] h=
 jn (fun a1=>
 V.ite a1
  (Bh (List.length h) h (V.bool true))
  ((BI h 3 t1).bind fun a2=>NJ t0 t2 t3 a2 (V.int .i64 0) (List.length h) h)) (fun(a17:V→Rv)=>(BI h 3 t1).bind fun a18=>(AO .lss a18 (V.int .i64 0)).bind fun a19=>V.ite a19 (a17 (V.bool true)) ((BI h 3 t1).bind fun a20=>(BI h 3 t2).bind fun a21=>(AO .geq a20 a21).bind fun a22=>a17 a22)):=
 OL (by kernel_rfl)
def RX (h:List V) (k:V→List V→Rv):Rv:=
 k (V.ref (List.length h) [] 40) (h++[zero P 40])
def RY (t0:V) (h:List V) (k:V→Rv):Rv:=
 (Cl 140 (AP h [t0,(V.lst 5 .nil [])]) []).bind fun r=>k r.1
def RZ (t3:V) (h:List V) (k:V→Rv):Rv:=
 (lenV P 167 (V.weak t3)).bind fun t12=>(conv P h 3 112 t12).bind fun t13=>(AO .mul t13 (V.int .u64 8)).bind fun t14=>k t14
def Rf (t3:V) (h:List V) (k:V→Rv):Rv:=
 (JD P 167 1 [(0,(V.int .u8 128))]).bind fun t16=>(Ea P 167 h t3 t16).bind fun t17=>k t17
def JG (t2 t3 t4:V) (h:List V):Rv:=lp W 122 0 (cd 122 143) (bk 0 (sk 122 0 63 (lv 122 0))) ⟨[(2,t2),(3,t3),(4,t4)],h⟩
def NK (t3:V) (k:V→Rv):Rv:=
 (lenV P 167 (V.weak t3)).bind fun t19=>(AO .rem t19 (V.int .i64 64)).bind fun t20=>(AO .neq t20 (V.int .i64 56)).bind fun t21=>k t21
def Rh (t3:V) (h:List V) (k:V→Rv):Rv:=
 (JD P 167 1 [(0,(V.int .u8 0))]).bind fun t23=>(Ea P 167 h t3 t23).bind fun t24=>k t24
def Ri (k:V→Rv):Rv:=
 k (V.int .i64 0)
def JH (t2 t3 t4 t25:V) (h:List V):Rv:=lp W 122 2 (cd 122 607) (bk 2 (sk 122 0 127 (lv 122 0))) ⟨[(2,t2),(3,t3),(4,t4),(25,t25)],h⟩
def NM (t25:V) (k:V→Rv):Rv:=
 (AO .lss t25 (V.int .i64 8)).bind fun t26=>k t26
def Rj (t25:V) (k:V→Rv):Rv:=
 k t25
def Rk (t3 t4 t5:V) (h:List V) (k:V→Rv):Rv:=
 (AO .mul (V.int .i64 8) t5).bind fun t31=>(AO .sub (V.int .i64 56) t31).bind fun t32=>(conv P h 3 169 t32).bind fun t33=>(AO .shr t4 t33).bind fun t34=>(conv P h 112 5 t34).bind fun t35=>(JD P 167 1 [(0,t35)]).bind fun t36=>(Ea P 167 h t3 t36).bind fun t37=>k t37
def OU (t25:V) (k:V→Rv):Rv:=
 (AO .add t25 (V.int .i64 1)).bind fun t38=>k t38
def OV (h:List V) (k:V→List V→Rv):Rv:=
 (BI h 200 (V.rop 200 Lp)).bind fun t39=>(Gz P (h++[zero P 200]) 200 (V.ref (List.length h) [] 200) t39).bind fun a1=>k (V.ref (List.length h) [] 200) a1
def JI (t2 t3 t6:V) (h:List V):Rv:=lp W 122 4 (cd 122 1151) (bk 4 (sk 122 0 511 (lv 122 0))) ⟨[(2,t2),(3,t3),(6,t6)],h⟩
def Jj (t3:V) (k:V→Rv):Rv:=
 (lenV P 167 (V.weak t3)).bind fun t41=>(AO .gtr t41 (V.int .i64 0)).bind fun t42=>k t42
def OW (t3 t6:V) (h:List V) (k:List V→Rv):Rv:=
 (BI h 200 t6).bind fun t45=>(LD P 167 (V.weak t3) none (some (V.int .i64 64)) none).bind fun t47=>(Cl 141 (AP h [t45,t47]) []).bind fun r=>(Gz P h 200 t6 r.1).bind fun a1=>k a1
def OX (t3:V) (k:V→Rv):Rv:=
 (LD P 167 t3 (some (V.int .i64 64)) none none).bind fun t44=>k t44
def OY (h:List V) (k:V→List V→Rv):Rv:=
 k (V.ref (List.length h) [] 40) (h++[zero P 40])
def OZ (k:V→Rv):Rv:=
 k (V.int .i64 0)
def JJ (t2 t6 t7 t49:V) (h:List V):Rv:=lp W 122 6 (cd 122 9727) (bk 6 (sk 122 0 2047 (lv 122 0))) ⟨[(2,t2),(6,t6),(7,t7),(49,t49)],h⟩
def Jk (t49:V) (k:V→Rv):Rv:=
 (AO .lss t49 (V.int .i64 32)).bind fun t50=>k t50
def Oa (t49:V) (k:V→Rv):Rv:=
 k t49
def Jl (t6 t7 t8:V) (h:List V) (k:List V→Rv):Rv:=
 (AO .quo t8 (V.int .i64 4)).bind fun t54=>(AZ P 200 t6 t54).bind fun t55=>(BI h 58 t55).bind fun t56=>(AO .rem t8 (V.int .i64 4)).bind fun t58=>(AO .mul (V.int .i64 8) t58).bind fun t59=>(AO .sub (V.int .i64 24) t59).bind fun t60=>(conv P h 3 169 t60).bind fun t61=>(AO .shr t56 t61).bind fun t62=>(conv P h 58 5 t62).bind fun t63=>(AZ P 40 t7 t8).bind fun t64=>(Gz P h 5 t64 t63).bind fun a1=>k a1
def Ob (t49:V) (k:V→Rv):Rv:=
 (AO .add t49 (V.int .i64 1)).bind fun t65=>k t65
def Oc (t2 t7:V) (h:List V) (k:List V→Rv):Rv:=
 (BI h 40 t7).bind fun t66=>(Gz P h 40 t2 t66).bind fun a1=>k a1
theorem Jm (t2 t6 t7 t49:V) (h:List V):JJ t2 t6 t7 t49 h=
 Jk t49 fun a21=>
  V.ite a21
  (Oa t49 fun a22=>
  Jl t6 t7 a22 h fun a23=>
  Ob t49 fun a24=>
  JJ t2 t6 t7 a24 a23)
  (Oc t2 t7 h fun a25=>
  (BI a25 40 t2).bind fun a26=>Bh 0 a25 a26):=
 IL (by kernel_rfl)
theorem Jo (t2 t3 t6:V) (h:List V):JI t2 t3 t6 h=
 Jj t3 fun a15=>
  V.ite a15
  (OW t3 t6 h fun a16=>
  OX t3 fun a17=>
  JI t2 a17 t6 a16)
  (OY h fun a18 a19=>
  OZ fun a20=>
  JJ t2 t6 a18 a20 a19):=
 IL (by kernel_rfl)
theorem Jp (t2 t3 t4 t25:V) (h:List V):JH t2 t3 t4 t25 h=
 NM t25 fun a9=>
  V.ite a9
  (Rj t25 fun a10=>
  Rk t3 t4 a10 h fun a11=>
  OU t25 fun a12=>
  JH t2 a11 t4 a12 h)
  (OV h fun a13 a14=>
  JI t2 t3 a13 a14):=
 IL (by kernel_rfl)
theorem Jq (t2 t3 t4:V) (h:List V):JG t2 t3 t4 h=
 NK t3 fun a6=>
  V.ite a6
  (Rh t3 h fun a7=>
  JG t2 a7 t4 h)
  (Ri fun a8=>
  JH t2 t3 t4 a8 h):=
 IL (by kernel_rfl)
theorem Xr (t0:V):Cl 122 [t0] []=
 RX [] fun a1 a2=>
  RY t0 a2 fun a3=>
  RZ a3 a2 fun a4=>
  Rf a3 a2 fun a5=>
  JG a1 a5 a4 a2:=
 OL (by kernel_rfl)
def Rl (k:Rv):Rv:=
 k
def Rn (t0:V) (k:V→Rv):Rv:=
 (lenV P 198 (V.weak t0)).bind fun t13=>(AO .eql t13 (V.int .i64 0)).bind fun t14=>k t14
def Xt (h:List V) (k:V→List V→Rv):Rv:=
 (JD P 167 0 []).bind fun v=>(Dq h v).bind fun r=>k r.1 r.2
def Ro (t0:V) (k:V→Rv):Rv:=
 (lenV P 198 (V.weak t0)).bind fun t17=>(AO .eql t17 (V.int .i64 1)).bind fun t18=>k t18
def Rq (t0:V) (h:List V) (k:V→List V→Rv):Rv:=
 (AZ P 198 t0 (V.int .i64 0)).bind fun t20=>(GH h 167 t20).bind fun t21=>(Ea P 167 h (V.lst 5 .nil []) t21).bind fun v=>(Dq h v).bind fun r=>k r.1 r.2
def Rt (k:V→Rv):Rv:=
 k (V.int .i64 0)
def Ru (t1:V) (k:V→Rv):Rv:=
 (lenV P 167 (V.weak t1)).bind fun t24=>(AO .gtr t24 (V.int .i64 0)).bind fun t25=>k t25
def Oe (t0:V) (k:V→V→V→Rv):Rv:=
 (lenV P 198 (V.weak t0)).bind fun t43=>k (V.weak t0) t43 (V.int .i64 0)
def JK (t0 t1 t5 t42 t43 t44:V) (h:List V):Rv:=lp W 140 0 (cd 140 607) (bk 0 (sk 140 0 127 (lv 140 0))) ⟨[(0,t0),(1,t1),(5,t5),(42,t42),(43,t43),(44,t44)],h⟩
def Jr (t43 t44:V) (k:V→Rv):Rv:=
 (AO .lss t44 t43).bind fun t45=>k t45
def Og (t42 t44:V) (h:List V) (k:V→Rv):Rv:=
 (AZ P 198 t42 t44).bind fun t46=>(GH h 167 t46).bind fun t47=>k t47
def Oh (t5 t7:V) (k:V→Rv):Rv:=
 (lenV P 167 (V.weak t7)).bind fun t49=>(AO .sub (V.int .i64 9223372036854775807) t5).bind fun t51=>(AO .gtr t49 t51).bind fun t52=>k t52
def Oi (t5 t7:V) (k:V→Rv):Rv:=
 (lenV P 167 t7).bind fun t56=>(AO .add t5 t56).bind fun t57=>k t57
def Oj (t44:V) (k:V→Rv):Rv:=
 (AO .add t44 (V.int .i64 1)).bind fun t58=>k t58
def Ol (t5:V) (h:List V) (k:V→List V→Rv):Rv:=
 Xc P 0 149 [t5] h fun t60 a1=>(LD P 167 t60 none (some t5) (some t5)).bind fun t63=>k t63 a1
def Om (t0 t8:V) (h:List V) (k:V→List V→Rv):Rv:=
 (AZ P 198 (V.weak t0) (V.int .i64 0)).bind fun t66=>(GH h 167 t66).bind fun t67=>(Xb P 167 h (V.weak t8) t67).bind fun r=>k r.1 r.2
def Oo (t0:V) (k:V→V→V→Rv):Rv:=
 (LD P 198 t0 (some (V.int .i64 1)) none none).bind fun t70=>(lenV P 198 t70).bind fun t71=>k t70 t71 (V.int .i64 0)
def JL (t1 t8 t9 t70 t71 t72:V) (h:List V):Rv:=lp W 140 2 (cd 140 4863) (bk 2 (sk 140 0 1023 (lv 140 0))) ⟨[(1,t1),(8,t8),(9,t9),(70,t70),(71,t71),(72,t72)],h⟩
def Js (t71 t72:V) (k:V→Rv):Rv:=
 (AO .lss t72 t71).bind fun t73=>k t73
def Oq (t70 t72:V) (h:List V) (k:V→Rv):Rv:=
 (AZ P 198 t70 t72).bind fun t74=>(GH h 167 t74).bind fun t75=>k t75
def Ot (t1 t8 t9:V) (h:List V) (k:V→List V→Rv):Rv:=
 (LD P 167 (V.weak t8) (some t9) none none).bind fun t79=>(Xb P 167 h t79 (V.weak t1)).bind fun r=>(AO .add t9 r.1).bind fun t82=>k t82 r.2
def Ou (t8 t9 t11:V) (h:List V) (k:V→List V→Rv):Rv:=
 (LD P 167 (V.weak t8) (some t9) none none).bind fun t86=>(Xb P 167 h t86 t11).bind fun r=>(AO .add t9 r.1).bind fun t89=>k t89 r.2
def Ov (t72:V) (k:V→Rv):Rv:=
 (AO .add t72 (V.int .i64 1)).bind fun t90=>k t90
def Ox (t8:V) (k:V→Rv):Rv:=
 k t8
theorem Jt (t1 t8 t9 t70 t71 t72:V) (h:List V):JL t1 t8 t9 t70 t71 t72 h=
 Js t71 t72 fun a25=>
  V.ite a25
  (Oq t70 t72 h fun a26=>
  Ot t1 t8 t9 h fun a27 a28=>
  Ou t8 a27 a26 a28 fun a29 a30=>
  Ov t72 fun a31=>
  JL t1 t8 a29 t70 t71 a31 a30)
  (Ox t8 fun a32=>
  LM 0 h a32):=
 IL (by kernel_rfl)
theorem Ju (t0 t1 t5 t42 t43 t44:V) (h:List V):JK t0 t1 t5 t42 t43 t44 h=
 Jr t43 t44 fun a13=>
  V.ite a13
  (Og t42 t44 h fun a14=>
  Oh t5 a14 fun a15=>
  V.ite a15
  (none)
  (Oi t5 a14 fun a16=>
  Oj t44 fun a17=>
  JK t0 t1 a16 t42 t43 a17 h))
  (Ol t5 h fun a18 a19=>
  Om t0 a18 a19 fun a20 a21=>
  Oo t0 fun a22 a23 a24=>
  JL t1 a18 a20 a22 a23 a24 a21):=
 IL (by kernel_rfl)
def Xu (t0 t1:V) (k:V→Rv):Rv:=
 (lenV P 167 (V.weak t1)).bind fun t27=>(lenV P 198 (V.weak t0)).bind fun t29=>(AO .sub t29 (V.int .i64 1)).bind fun t30=>(AO .quo (V.int .i64 9223372036854775807) t30).bind fun t31=>(AO .geq t27 t31).bind fun t32=>k t32
def Xv (t0 t1 t5:V) (k:V→Rv):Rv:=
 (lenV P 167 (V.weak t1)).bind fun t36=>(lenV P 198 (V.weak t0)).bind fun t38=>(AO .sub t38 (V.int .i64 1)).bind fun t39=>(AO .mul t36 t39).bind fun t40=>(AO .add t5 t40).bind fun t41=>k t41
theorem Xw (t0 t1:V):Cl 140 [t0,t1] []=
 Rl (Rn t0 fun a1=>
  V.ite a1
  (Xt [] fun a2 a3=>
  LM 0 a3 a2)
  (Ro t0 fun a4=>
  V.ite a4
  (Rq t0 [] fun a5 a6=>
  LM 0 a6 a5)
  (Rt fun a7=>
  Ru t1 fun a8=>
  jn (fun a9=>Oe t0 fun a10 a11 a12=>
  JK t0 t1 a9 a10 a11 a12 [])
  (fun(j0:V→Rv)=>V.ite a8
  (Xu t0 t1 fun a33=>
  V.ite a33
  (none)
  (Xv t0 t1 a7 fun a34=>
  j0 a34))
  (j0 a7))))):=
 OL (Il<|OJ (fun K=>K ⟨[(0,t0),(1,t1)],[]⟩) (Gh<|Il<|Il<|OJ (fun K u14=>K ⟨[(0,t0),(1,t1),(14,u14)],[]⟩) (funext fun a1=>Gh<|QW (by kernel_rfl) (VA<|Gh<|Il<|Il<|OJ (fun K u18=>K ⟨[(0,t0),(1,t1),(18,u18)],[]⟩) (funext fun a4=>Gh<|QW (by kernel_rfl) (VA<|Gh<|Il<|OJ (fun K u5=>K ⟨[(0,t0),(1,t1),(5,u5)],[]⟩) (funext fun a7=>Gh<|Il<|Il<|OJ (fun K u25=>K ⟨[(0,t0),(1,t1),(5,a7),(25,u25)],[]⟩) (funext fun a8=>Gh<|AC4 (fun K a9=>K ⟨[(0,t0),(1,t1),(5,a9)],[]⟩) (funext fun a9=>by kernel_rfl) (QW (by kernel_rfl) (by kernel_rfl))))))))))
def Rw (t0:V) (h:List V) (k:V→V→List V→Rv):Rv:=
 if(CO P 200 t0&&V.under (List.length h) t0)=true then k (V.ref (List.length h) [] 200) (V.ref (List.length (h++[t0])) [] 200) ((h++[t0])++[zero P 200])else none
def Rx (h:List V) (k:V→List V→Rv):Rv:=
 k (V.ref (List.length h) [] 210) (h++[zero P 210])
def Ry (k:V→Rv):Rv:=
 k (V.int .i64 0)
def JM (t1 t2 t4 t5 t23:V) (h:List V):Rv:=lp W 141 0 (cd 141 75) (bk 0 (sk 141 0 15 (lv 141 0))) ⟨[(1,t1),(2,t2),(4,t4),(5,t5),(23,t23)],h⟩
def NP (t23:V) (k:V→Rv):Rv:=
 (AO .lss t23 (V.int .i64 16)).bind fun t24=>k t24
def Rz (t23:V) (k:V→Rv):Rv:=
 k t23
def SA (t1 t6:V) (k:V→Rv):Rv:=
 (AO .mul (V.int .i64 4) t6).bind fun t28=>(AO .mul (V.int .i64 4) t6).bind fun t30=>(AO .add t30 (V.int .i64 4)).bind fun t31=>(LD P 167 (V.weak t1) (some t28) (some t31) none).bind fun t32=>k t32
def NQ (t5 t6 t7:V) (h:List V) (k:List V→Rv):Rv:=
 (AZ P 167 (V.weak t7) (V.int .i64 0)).bind fun t35=>(BI h 5 t35).bind fun t36=>(conv P h 5 58 t36).bind fun t37=>(AO .shl t37 (V.int .u64 24)).bind fun t38=>(AZ P 167 (V.weak t7) (V.int .i64 1)).bind fun t40=>(BI h 5 t40).bind fun t41=>(conv P h 5 58 t41).bind fun t42=>(AO .shl t42 (V.int .u64 16)).bind fun t43=>(AO .or t38 t43).bind fun t44=>(AZ P 167 (V.weak t7) (V.int .i64 2)).bind fun t46=>(BI h 5 t46).bind fun t47=>(conv P h 5 58 t47).bind fun t48=>(AO .shl t48 (V.int .u64 8)).bind fun t49=>(AO .or t44 t49).bind fun t50=>(AZ P 167 (V.weak t7) (V.int .i64 3)).bind fun t52=>(BI h 5 t52).bind fun t53=>(conv P h 5 58 t53).bind fun t54=>(AO .or t50 t54).bind fun t55=>(AZ P 210 t5 t6).bind fun t56=>(Gz P h 58 t56 t55).bind fun a1=>k a1
def SB (t23:V) (k:V→Rv):Rv:=
 (AO .add t23 (V.int .i64 1)).bind fun t57=>k t57
def SC (k:V→Rv):Rv:=
 k (V.int .i64 16)
def JO (t2 t4 t5 t8:V) (h:List V):Rv:=lp W 141 2 (cd 141 151) (bk 2 (sk 141 0 31 (lv 141 0))) ⟨[(2,t2),(4,t4),(5,t5),(8,t8)],h⟩
def NR (t8:V) (k:V→Rv):Rv:=
 (AO .lss t8 (V.int .i64 64)).bind fun t59=>k t59
def Jv (t5 t8:V) (h:List V) (k:V→Rv):Rv:=
 (AO .sub t8 (V.int .i64 15)).bind fun t63=>(AZ P 210 t5 t63).bind fun t64=>(BI h 58 t64).bind fun t65=>(Cl 150 (AP h [t65,(V.int .i64 7)]) []).bind fun r=>(AO .sub t8 (V.int .i64 15)).bind fun t68=>(AZ P 210 t5 t68).bind fun t69=>(BI h 58 t69).bind fun t70=>(Cl 150 (AP h [t70,(V.int .i64 18)]) []).bind fun a1=>(AO .xor r.1 a1.1).bind fun t72=>(AO .sub t8 (V.int .i64 15)).bind fun t74=>(AZ P 210 t5 t74).bind fun t75=>(BI h 58 t75).bind fun t76=>(AO .shr t76 (V.int .u64 3)).bind fun t77=>(AO .xor t72 t77).bind fun t78=>k t78
def Jw (t5 t8:V) (h:List V) (k:V→Rv):Rv:=
 (AO .sub t8 (V.int .i64 2)).bind fun t80=>(AZ P 210 t5 t80).bind fun t81=>(BI h 58 t81).bind fun t82=>(Cl 150 (AP h [t82,(V.int .i64 17)]) []).bind fun r=>(AO .sub t8 (V.int .i64 2)).bind fun t85=>(AZ P 210 t5 t85).bind fun t86=>(BI h 58 t86).bind fun t87=>(Cl 150 (AP h [t87,(V.int .i64 19)]) []).bind fun a1=>(AO .xor r.1 a1.1).bind fun t89=>(AO .sub t8 (V.int .i64 2)).bind fun t91=>(AZ P 210 t5 t91).bind fun t92=>(BI h 58 t92).bind fun t93=>(AO .shr t93 (V.int .u64 10)).bind fun t94=>(AO .xor t89 t94).bind fun t95=>k t95
def Jy (t5 t8 t9 t10:V) (h:List V) (k:List V→Rv):Rv:=
 (AO .sub t8 (V.int .i64 16)).bind fun t98=>(AZ P 210 t5 t98).bind fun t99=>(BI h 58 t99).bind fun t100=>(AO .sub t8 (V.int .i64 7)).bind fun t102=>(AZ P 210 t5 t102).bind fun t103=>(BI h 58 t103).bind fun t104=>(AO .add t100 t104).bind fun t105=>(AO .add t105 t9).bind fun t107=>(AO .add t107 t10).bind fun t109=>(AZ P 210 t5 t8).bind fun t110=>(Gz P h 58 t110 t109).bind fun a1=>k a1
def Oy (t8:V) (k:V→Rv):Rv:=
 (AO .add t8 (V.int .i64 1)).bind fun t61=>k t61
def Oz (t2:V) (h:List V) (k:V→List V→Rv):Rv:=
 (BI h 200 t2).bind fun t111=>(Gz P (h++[zero P 200]) 200 (V.ref (List.length h) [] 200) t111).bind fun a1=>k (V.ref (List.length h) [] 200) a1
def VO (k:V→Rv):Rv:=
 k (V.int .i64 0)
def JP (t2 t4 t5 t11 t112:V) (h:List V):Rv:=lp W 141 4 (cd 141 607) (bk 4 (sk 141 0 127 (lv 141 0))) ⟨[(2,t2),(4,t4),(5,t5),(11,t11),(112,t112)],h⟩
def Jz (t112:V) (k:V→Rv):Rv:=
 (AO .lss t112 (V.int .i64 64)).bind fun t113=>k t113
def O0 (t112:V) (k:V→Rv):Rv:=
 k t112
def J3 (t11:V) (h:List V) (k:V→V→V→V→V→V→Rv):Rv:=
 (AZ P 200 t11 (V.int .i64 0)).bind fun t115=>(BI h 58 t115).bind fun t116=>(AZ P 200 t11 (V.int .i64 1)).bind fun t117=>(BI h 58 t117).bind fun t118=>(AZ P 200 t11 (V.int .i64 2)).bind fun t119=>(BI h 58 t119).bind fun t120=>(AZ P 200 t11 (V.int .i64 4)).bind fun t121=>(BI h 58 t121).bind fun t122=>(AZ P 200 t11 (V.int .i64 5)).bind fun t123=>(BI h 58 t123).bind fun t124=>(AZ P 200 t11 (V.int .i64 6)).bind fun t125=>(BI h 58 t125).bind fun t126=>k t116 t118 t120 t122 t124 t126
def J4 (t5 t11 t12 t16 t17 t18:V) (h:List V) (k:V→Rv):Rv:=
 (AZ P 200 t11 (V.int .i64 7)).bind fun t127=>(BI h 58 t127).bind fun t128=>(Cl 150 (AP h [t16,(V.int .i64 6)]) []).bind fun r=>(Cl 150 (AP h [t16,(V.int .i64 11)]) []).bind fun a1=>(AO .xor r.1 a1.1).bind fun t133=>(Cl 150 (AP h [t16,(V.int .i64 25)]) []).bind fun a2=>(AO .xor t133 a2.1).bind fun t136=>(AO .add t128 t136).bind fun t137=>(AO .xor t17 t18).bind fun t142=>(AO .and t16 t142).bind fun t143=>(AO .xor t18 t143).bind fun t144=>(AO .add t137 t144).bind fun t145=>(AZ P 210 (V.rop 210 Jh) t12).bind fun t147=>(BI h 58 t147).bind fun t148=>(AO .add t145 t148).bind fun t149=>(AZ P 210 t5 t12).bind fun t151=>(BI h 58 t151).bind fun t152=>(AO .add t149 t152).bind fun t153=>k t153
def J5 (t13 t14 t15:V) (h:List V) (k:V→Rv):Rv:=
 (Cl 150 (AP h [t13,(V.int .i64 2)]) []).bind fun r=>(Cl 150 (AP h [t13,(V.int .i64 13)]) []).bind fun a1=>(AO .xor r.1 a1.1).bind fun t158=>(Cl 150 (AP h [t13,(V.int .i64 22)]) []).bind fun a2=>(AO .xor t158 a2.1).bind fun t161=>(AO .and t13 t14).bind fun t164=>(AO .or t13 t14).bind fun t168=>(AO .and t15 t168).bind fun t169=>(AO .or t164 t169).bind fun t170=>(AO .add t161 t170).bind fun t171=>k t171
def J6 (t11 t13 t14 t15 t16 t17 t18 t19 t20:V) (h:List V) (k:List V→Rv):Rv:=
 (AO .add t19 t20).bind fun t174=>(AZ P 200 t11 (V.int .i64 3)).bind fun t178=>(BI h 58 t178).bind fun t179=>(AO .add t179 t19).bind fun t181=>(bld P 200 [(0,t174),(1,t13),(2,t14),(3,t15),(4,t181),(5,t16),(6,t17),(7,t18)]).bind fun t185=>(Gz P h 200 t11 t185).bind fun a1=>k a1
def O3 (t112:V) (k:V→Rv):Rv:=
 (AO .add t112 (V.int .i64 1)).bind fun t186=>k t186
def O4 (t11:V) (h:List V) (k:V→V→Rv):Rv:=
 (BI h 200 t11).bind fun t187=>k t187 (V.int .i64 0)
def JQ (t2 t4 t187 t188:V) (h:List V):Rv:=lp W 141 6 (cd 141 1215) (bk 6 (sk 141 0 255 (lv 141 0))) ⟨[(2,t2),(4,t4),(187,t187),(188,t188)],h⟩
def J7 (t188:V) (k:V→Rv):Rv:=
 (AO .lss t188 (V.int .i64 8)).bind fun t189=>k t189
def O5 (t187 t188:V) (k:V→V→Rv):Rv:=
 (II P 200 t187 t188).bind fun t191=>k t188 t191
def O6 (t2 t21 t22:V) (h:List V) (k:List V→Rv):Rv:=
 (AZ P 200 t2 t21).bind fun t193=>(BI h 58 t193).bind fun t194=>(AO .add t194 t22).bind fun t196=>(AZ P 200 t2 t21).bind fun t197=>(Gz P h 58 t197 t196).bind fun a1=>k a1
def O7 (t188:V) (k:V→Rv):Rv:=
 (AO .add t188 (V.int .i64 1)).bind fun t198=>k t198
def O8 (t2 t4:V) (h:List V) (k:List V→Rv):Rv:=
 (BI h 200 t2).bind fun t199=>(Gz P h 200 t4 t199).bind fun a1=>k a1
theorem J8 (t2 t4 t187 t188:V) (h:List V):JQ t2 t4 t187 t188 h=
 J7 t188 fun a35=>
  V.ite a35
  (O5 t187 t188 fun a36 a37=>
  O6 t2 a36 a37 h fun a38=>
  O7 t188 fun a39=>
  JQ t2 t4 t187 a39 a38)
  (O8 t2 t4 h fun a40=>
  (BI a40 200 t4).bind fun a41=>Bh 0 a40 a41):=
 IL (by kernel_rfl)
theorem J9 (t2 t4 t5 t11 t112:V) (h:List V):JP t2 t4 t5 t11 t112 h=
 Jz t112 fun a21=>
  V.ite a21
  (O0 t112 fun a22=>
  J3 t11 h fun a23 a24 a25 a26 a27 a28=>
  J4 t5 t11 a22 a26 a27 a28 h fun a29=>
  J5 a23 a24 a25 h fun a30=>
  J6 t11 a23 a24 a25 a26 a27 a28 a29 a30 h fun a31=>
  O3 t112 fun a32=>
  JP t2 t4 t5 t11 a32 a31)
  (O4 t11 h fun a33 a34=>
  JQ t2 t4 a33 a34 h):=
 IL (by kernel_rfl)
theorem KA (t2 t4 t5 t8:V) (h:List V):JO t2 t4 t5 t8 h=
 NR t8 fun a13=>
  V.ite a13
  (Jv t5 t8 h fun a14=>
  Jw t5 t8 h fun a15=>
  Jy t5 t8 a14 a15 h fun a16=>
  Oy t8 fun a17=>
  JO t2 t4 t5 a17 a16)
  (Oz t2 h fun a18 a19=>
  VO fun a20=>
  JP t2 t4 t5 a18 a20 a19):=
 IL (by kernel_rfl)
theorem KC (t1 t2 t4 t5 t23:V) (h:List V):JM t1 t2 t4 t5 t23 h=
 NP t23 fun a7=>
  V.ite a7
  (Rz t23 fun a8=>
  SA t1 a8 fun a9=>
  NQ t5 a8 a9 h fun a10=>
  SB t23 fun a11=>
  JM t1 t2 t4 t5 a11 a10)
  (SC fun a12=>
  JO t2 t4 t5 a12 h):=
 IL (by kernel_rfl)
theorem Xx (t0 t1:V):Cl 141 [t0,t1] []=
 Rw t0 [] fun a1 a2 a3=>
  Rx a3 fun a4 a5=>
  Ry fun a6=>
  JM t1 a1 a2 a4 a6 a5:=
 OL (by kernel_rfl)
def SE (k:Rv):Rv:=
 k
def SG (t0 t1:V) (k:V→Rv):Rv:=
 (un .neg t1).bind fun t7=>(Cl 160 (AP [] [t0,t7]) []).bind fun r=>k r.1
theorem Xy (t0 t1:V):Cl 150 [t0,t1] []=
 SE (SG t0 t1 fun a1=>
  Bh 0 [] a1):=
 OL (by kernel_rfl)
def SH (k:Rv):Rv:=
 k
def SI (t1:V) (k:V→Rv):Rv:=
 (conv P [] 3 169 t1).bind fun t7=>(AO .and t7 (V.int .u64 31)).bind fun t8=>k t8
def SK (t0 t5:V) (k:V→Rv):Rv:=
 (AO .shl t0 t5).bind fun t11=>(AO .sub (V.int .u64 32) t5).bind fun t14=>(AO .shr t0 t14).bind fun t15=>(AO .or t11 t15).bind fun t16=>k t16
theorem Xz (t0 t1:V):Cl 160 [t0,t1] []=
 SH (SI t1 fun a1=>
  SK t0 a1 fun a2=>
  Bh 0 [] a2):=
 OL (by kernel_rfl)
end
end Go.Proofs.YtkelgdjhpgefnaaGreatDoor
