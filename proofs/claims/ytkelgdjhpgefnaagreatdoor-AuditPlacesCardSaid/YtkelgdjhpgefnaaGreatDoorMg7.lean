/-
  Part of the proof of a statement about the given program: an abstract machine over its code, the simulation, its functions' equations, what they compute.
-/
import Derived.Test.YtkelgdjhpgefnaaGreatDoorMg6
set_option linter.unusedVariables false
set_option linter.unusedSimpArgs false
set_option linter.unusedSectionVars false
set_option maxRecDepth 100000
noncomputable section
namespace Go.Proofs.YtkelgdjhpgefnaaGreatDoor
section
open Go AM
theorem VU (t0 t1 t2:V):Cl 3 [t0,t1,t2] []=
 jn (fun a1=>
 V.ite a1
  ((Cl 5 (AP [] []) []).bind fun a2=>Be 0 [] a2.1)
  ((bsL 58 false (ck [] [])).bind fun a3=>(RY 58 (tyI .u32) false [] a3 (V.weak t2)).bind fun a4=>(Cl 7 (AP [] [t0,t1,a4]) []).bind fun a5=>(Cl 8 (AP [] [t0,t1,t2]) []).bind fun a6=>(Cl 6 (AP [] [a5.1,a6.1]) []).bind fun a7=>Be 0 [] a7.1)) (fun(a8:V→Rv)=>(Cl 5 (AP [] []) []).bind fun a9=>(un .not a9.1).bind fun a10=>V.ite a10 (a8 (V.bool true)) ((U7 (V.weak t2)).bind fun a11=>(AQ .gtr a11 (V.int .i64 100)).bind fun a12=>V.ite a12 (a8 (V.bool true)) ((AQ .gtr t1 (V.int .i64 100)).bind fun a13=>a8 a13))):=
 LY (by kernel_rfl)
def Rh (t0 t1 t5:V):Rv:=lp W 6 0 (cd 6 75) (bk 0 (sk 6 0 15 (lv 6 0))) ⟨[(0,t0),(1,t1),(5,t5)],[]⟩
theorem OW (t0 t1 t5:V):Rh t0 t1 t5=
 (U7 (V.weak t0)).bind fun a4=>(AQ .lss t5 a4).bind fun a5=>V.ite a5
  ((RX 3 (V.weak t0) t5).bind fun a6=>(BK [] 3 a6).bind fun a7=>(RX 3 (V.weak t1) t5).bind fun a8=>(BK [] 3 a8).bind fun a9=>(AQ .neq a7 a9).bind fun a10=>V.ite a10
  (Be 0 [] (V.bool false))
  ((AQ .add t5 (V.int .i64 1)).bind fun a11=>Rh t0 t1 a11))
  (Be 0 [] (V.bool true)):=
 Gj (by kernel_rfl)
theorem ABs (t0 t1:V):Cl 6 [t0,t1] []=
 (U7 (V.weak t0)).bind fun a1=>(U7 (V.weak t1)).bind fun a2=>(AQ .neq a1 a2).bind fun a3=>V.ite a3
  (Be 0 [] (V.bool false))
  (Rh t0 t1 (V.int .i64 0)):=
 LY (by kernel_rfl)
def OX (t7 t8 t17 t18:V) (h:List V):Rv:=lp W 7 0 (cd 7 303) (bk 0 (sk 7 0 63 (lv 7 0))) ⟨[(7,t7),(8,t8),(17,t17),(18,t18)],h⟩
theorem Jm (t7 t8 t17 t18:V) (h:List V):OX t7 t8 t17 t18 h=
 (AQ .lss t18 t17).bind fun a4=>V.ite a4
  (CX P ER W t7 [t18] h fun a5 a6=>if V.noOwn a5=true then V.ite a5
  ((bsL 3 false (ck [(tyI .i64) t18] [t18])).bind fun a7=>(RY 3 (tyI .i64) false a6 t8 a7).bind fun a8=>(AQ .add t18 (V.int .i64 1)).bind fun a9=>OX t7 a8 t17 a9 a6)
  ((AQ .add t18 (V.int .i64 1)).bind fun a10=>OX t7 t8 t17 a10 a6)else none)
  (Be 0 h t8):=
 Gj (by kernel_rfl)
theorem VW (t0 t1 t2:V):Cl 7 [t0,t1,t2] []=
 if((tyI .i64) t0&&V.under 0 t0)=true then if((tyI .i64) t1&&V.under 1 t1)=true then if((tyL 58) (V.weak t2)&&V.under 2 (V.weak t2))=true then jn (fun a1=>
 V.ite a1
  (Be 0 [t0,t1,(V.weak t2)] (V.weak (V.lst 3 .nil [])))
  ((if(List.all [(V.ref 1 [] 3),(V.ref 0 [] 3),(V.ref 2 [] 22)] V.capOk)=true then some (V.clo 16 [(V.ref 1 [] 3),(V.ref 0 [] 3),(V.ref 2 [] 22)])else none).bind fun a2=>(BK [t0,t1,(V.weak t2)] 3 (V.ref 0 [] 3)).bind fun a3=>OX a2 (V.weak (V.lst 3 .nil [])) a3 (V.int .i64 0) [t0,t1,(V.weak t2)])) (fun(a11:V→Rv)=>(BK [t0,t1,(V.weak t2)] 3 (V.ref 0 [] 3)).bind fun a12=>(AQ .lss a12 (V.int .i64 1)).bind fun a13=>V.ite a13 (a11 (V.bool true)) ((BK [t0,t1,(V.weak t2)] 3 (V.ref 0 [] 3)).bind fun a14=>(AQ .gtr a14 (V.int .i64 64)).bind fun a15=>a11 a15))else none else none else none:=
 LY (by kernel_rfl)
def Jo (t0 t1 t2 t7 t8:V):Rv:=lp W 8 0 (cd 8 151) (bk 0 (sk 8 0 31 (lv 8 0))) ⟨[(0,t0),(1,t1),(2,t2),(7,t7),(8,t8)],[]⟩
def MC (t0 t1 t2 t7 t8 t9 t10:V) (m0:Nat):Rv:=lp W 8 2 (cd 8 38039) (bk 2 (sk 8 1 7319 (bk 1 (sk 8 0 919 (lk 8 0 m0 151 (bk 0 (sk 8 0 31 (lv 8 0)))))))) ⟨[(0,t0),(1,t1),(2,t2),(7,t7),(8,t8),(9,t9),(10,t10)],[]⟩
theorem He (t0 t1 t2 t7 t8 t9 t10:V) (m0:Nat):MC t0 t1 t2 t7 t8 t9 t10 m0=
 jn (fun a5=>
 V.ite a5
  ((U7 (V.weak t2)).bind fun a6=>(AQ .lss t10 a6).bind fun a7=>V.ite a7
  ((RX 58 (V.weak t2) t10).bind fun a8=>(BK [] 58 a8).bind fun a9=>(UB .i64 a9).bind fun a10=>(AQ .rem a10 t0).bind fun a11=>(AQ .eql a11 t8).bind fun a12=>(AQ .add t10 (V.int .i64 1)).bind fun a13=>MC t0 t1 t2 t7 t8 a12 a13 m0)
  ((AQ .eql t8 (V.int .i64 0)).bind fun a14=>(AQ .add t10 (V.int .i64 1)).bind fun a15=>MC t0 t1 t2 t7 t8 a14 a15 m0))
  (V.ite t9
  ((bsL 3 false (ck [(tyI .i64) t8] [t8])).bind fun a16=>(RY 3 (tyI .i64) false [] t7 a16).bind fun a17=>(AQ .add t8 (V.int .i64 1)).bind fun a18=>Jo t0 t1 t2 a17 a18)
  ((AQ .add t8 (V.int .i64 1)).bind fun a19=>Jo t0 t1 t2 t7 a19))) (fun(a20:V→Rv)=>(AQ .lss t10 t1).bind fun a21=>V.ite a21 ((un .not t9).bind fun a22=>a20 a22) (a20 (V.bool false))):=
 Gj (by kernel_rfl)
theorem Hf (t0 t1 t2 t7 t8:V):Jo t0 t1 t2 t7 t8=
 (AQ .lss t8 t0).bind fun a3=>V.ite a3
  (jn (fun a4=>
 MC t0 t1 t2 t7 t8 a4 (V.int .i64 0) 0) (fun(a23:V→Rv)=>(AQ .lss t1 (V.int .i64 0)).bind fun a24=>V.ite a24 (a23 (V.bool true)) ((AQ .geq t1 t0).bind fun a25=>a23 a25)))
  (Be 0 [] t7):=
 Gj (by kernel_rfl)
theorem VX (t0 t1 t2:V):Cl 8 [t0,t1,t2] []=
 (bsL 3 false (ck [] [])).bind fun a1=>jn (fun a2=>
 V.ite a2
  (Be 0 [] a1)
  (Jo t0 t1 t2 a1 (V.int .i64 0))) (fun(a26:V→Rv)=>(AQ .lss t0 (V.int .i64 1)).bind fun a27=>V.ite a27 (a26 (V.bool true)) ((AQ .gtr t0 (V.int .i64 64)).bind fun a28=>a26 a28)):=
 LY (by kernel_rfl)
def NS (t0 t2 t3 t15 t16:V) (n:Nat) (h:List V):Rv:=lp W 16 0 (cd 16 75) (bk 0 (sk 16 0 15 (lv 16 n))) ⟨[(0,t0),(2,t2),(3,t3),(15,t15),(16,t16)],h⟩
theorem ET (t0 t2 t3 t15 t16:V) (n:Nat) (h:List V):NS t0 t2 t3 t15 t16 n h=
 (AQ .lss t16 t15).bind fun a3=>V.ite a3
  ((GI h 22 t3).bind fun a4=>(U7 a4).bind fun a5=>(AQ .lss t16 a5).bind fun a6=>jn (fun a7=>(BK h 3 t2).bind fun a8=>(UB .u32 a8).bind fun a9=>(AQ .rem a7 a9).bind fun a10=>(UB .i64 a10).bind fun a11=>(AQ .eql a11 t0).bind fun a12=>V.ite a12
  (Be n h (V.bool true))
  ((AQ .add t16 (V.int .i64 1)).bind fun a13=>NS t0 t2 t3 t15 a13 n h))
  (fun(j0:V→Rv)=>V.ite a6
  ((GI h 22 t3).bind fun a14=>(RX 58 a14 t16).bind fun a15=>(BK h 58 a15).bind fun a16=>j0 a16)
  (j0 (V.int .u32 0))))
  (Be n h (V.bool false)):=
 Gj (by kernel_rfl)
theorem Qb (t0 t1 t2 t3:V) (h:List V):Cl 16 [t0,t1,t2,t3] h=
 jn (fun a1=>
 V.ite a1
  (Be (List.length h) h (V.bool true))
  ((BK h 3 t1).bind fun a2=>NS t0 t2 t3 a2 (V.int .i64 0) (List.length h) h)) (fun(a17:V→Rv)=>(BK h 3 t1).bind fun a18=>(AQ .lss a18 (V.int .i64 0)).bind fun a19=>V.ite a19 (a17 (V.bool true)) ((BK h 3 t1).bind fun a20=>(BK h 3 t2).bind fun a21=>(AQ .geq a20 a21).bind fun a22=>a17 a22)):=
 LY (by kernel_rfl)
def Ri (h:List V) (k:V→List V→Rv):Rv:=
 k (V.ref (List.length h) [] 40) (h++[zero P 40])
def Rj (t0:V) (h:List V) (k:V→Rv):Rv:=
 (Cl 140 (AP h [t0,(V.lst 5 .nil [])]) []).bind fun r=>k r.1
def Rk (t3:V) (h:List V) (k:V→Rv):Rv:=
 (lenV P 167 (V.weak t3)).bind fun t12=>(conv P h 3 112 t12).bind fun t13=>(AQ .mul t13 (V.int .u64 8)).bind fun t14=>k t14
def Rl (t3:V) (h:List V) (k:V→Rv):Rv:=
 (JG P 167 1 [(0,(V.int .u8 128))]).bind fun t16=>(Eb P 167 h t3 t16).bind fun t17=>k t17
def JK (t2 t3 t4:V) (h:List V):Rv:=lp W 122 0 (cd 122 143) (bk 0 (sk 122 0 63 (lv 122 0))) ⟨[(2,t2),(3,t3),(4,t4)],h⟩
def NT (t3:V) (k:V→Rv):Rv:=
 (lenV P 167 (V.weak t3)).bind fun t19=>(AQ .rem t19 (V.int .i64 64)).bind fun t20=>(AQ .neq t20 (V.int .i64 56)).bind fun t21=>k t21
def Rn (t3:V) (h:List V) (k:V→Rv):Rv:=
 (JG P 167 1 [(0,(V.int .u8 0))]).bind fun t23=>(Eb P 167 h t3 t23).bind fun t24=>k t24
def Ro (k:V→Rv):Rv:=
 k (V.int .i64 0)
def JL (t2 t3 t4 t25:V) (h:List V):Rv:=lp W 122 2 (cd 122 607) (bk 2 (sk 122 0 127 (lv 122 0))) ⟨[(2,t2),(3,t3),(4,t4),(25,t25)],h⟩
def NU (t25:V) (k:V→Rv):Rv:=
 (AQ .lss t25 (V.int .i64 8)).bind fun t26=>k t26
def Rq (t25:V) (k:V→Rv):Rv:=
 k t25
def Rt (t3 t4 t5:V) (h:List V) (k:V→Rv):Rv:=
 (AQ .mul (V.int .i64 8) t5).bind fun t31=>(AQ .sub (V.int .i64 56) t31).bind fun t32=>(conv P h 3 169 t32).bind fun t33=>(AQ .shr t4 t33).bind fun t34=>(conv P h 112 5 t34).bind fun t35=>(JG P 167 1 [(0,t35)]).bind fun t36=>(Eb P 167 h t3 t36).bind fun t37=>k t37
def OY (t25:V) (k:V→Rv):Rv:=
 (AQ .add t25 (V.int .i64 1)).bind fun t38=>k t38
def OZ (h:List V) (k:V→List V→Rv):Rv:=
 (BK h 200 (V.rop 200 MB)).bind fun t39=>(G6 P (h++[zero P 200]) 200 (V.ref (List.length h) [] 200) t39).bind fun a1=>k (V.ref (List.length h) [] 200) a1
def JM (t2 t3 t6:V) (h:List V):Rv:=lp W 122 4 (cd 122 1151) (bk 4 (sk 122 0 511 (lv 122 0))) ⟨[(2,t2),(3,t3),(6,t6)],h⟩
def Jp (t3:V) (k:V→Rv):Rv:=
 (lenV P 167 (V.weak t3)).bind fun t41=>(AQ .gtr t41 (V.int .i64 0)).bind fun t42=>k t42
def Oa (t3 t6:V) (h:List V) (k:List V→Rv):Rv:=
 (BK h 200 t6).bind fun t45=>(LP P 167 (V.weak t3) none (some (V.int .i64 64)) none).bind fun t47=>(Cl 141 (AP h [t45,t47]) []).bind fun r=>(G6 P h 200 t6 r.1).bind fun a1=>k a1
def Ob (t3:V) (k:V→Rv):Rv:=
 (LP P 167 t3 (some (V.int .i64 64)) none none).bind fun t44=>k t44
def Oc (h:List V) (k:V→List V→Rv):Rv:=
 k (V.ref (List.length h) [] 40) (h++[zero P 40])
def Oe (k:V→Rv):Rv:=
 k (V.int .i64 0)
def JO (t2 t6 t7 t49:V) (h:List V):Rv:=lp W 122 6 (cd 122 9727) (bk 6 (sk 122 0 2047 (lv 122 0))) ⟨[(2,t2),(6,t6),(7,t7),(49,t49)],h⟩
def Jq (t49:V) (k:V→Rv):Rv:=
 (AQ .lss t49 (V.int .i64 32)).bind fun t50=>k t50
def Og (t49:V) (k:V→Rv):Rv:=
 k t49
def Jr (t6 t7 t8:V) (h:List V) (k:List V→Rv):Rv:=
 (AQ .quo t8 (V.int .i64 4)).bind fun t54=>(AZ P 200 t6 t54).bind fun t55=>(BK h 58 t55).bind fun t56=>(AQ .rem t8 (V.int .i64 4)).bind fun t58=>(AQ .mul (V.int .i64 8) t58).bind fun t59=>(AQ .sub (V.int .i64 24) t59).bind fun t60=>(conv P h 3 169 t60).bind fun t61=>(AQ .shr t56 t61).bind fun t62=>(conv P h 58 5 t62).bind fun t63=>(AZ P 40 t7 t8).bind fun t64=>(G6 P h 5 t64 t63).bind fun a1=>k a1
def Oh (t49:V) (k:V→Rv):Rv:=
 (AQ .add t49 (V.int .i64 1)).bind fun t65=>k t65
def Oi (t2 t7:V) (h:List V) (k:List V→Rv):Rv:=
 (BK h 40 t7).bind fun t66=>(G6 P h 40 t2 t66).bind fun a1=>k a1
theorem Js (t2 t6 t7 t49:V) (h:List V):JO t2 t6 t7 t49 h=
 Jq t49 fun a21=>
  V.ite a21
  (Og t49 fun a22=>
  Jr t6 t7 a22 h fun a23=>
  Oh t49 fun a24=>
  JO t2 t6 t7 a24 a23)
  (Oi t2 t7 h fun a25=>
  (BK a25 40 t2).bind fun a26=>Be 0 a25 a26):=
 Gj (by kernel_rfl)
theorem Jt (t2 t3 t6:V) (h:List V):JM t2 t3 t6 h=
 Jp t3 fun a15=>
  V.ite a15
  (Oa t3 t6 h fun a16=>
  Ob t3 fun a17=>
  JM t2 a17 t6 a16)
  (Oc h fun a18 a19=>
  Oe fun a20=>
  JO t2 t6 a18 a20 a19):=
 Gj (by kernel_rfl)
theorem Ju (t2 t3 t4 t25:V) (h:List V):JL t2 t3 t4 t25 h=
 NU t25 fun a9=>
  V.ite a9
  (Rq t25 fun a10=>
  Rt t3 t4 a10 h fun a11=>
  OY t25 fun a12=>
  JL t2 a11 t4 a12 h)
  (OZ h fun a13 a14=>
  JM t2 t3 a13 a14):=
 Gj (by kernel_rfl)
theorem Jv (t2 t3 t4:V) (h:List V):JK t2 t3 t4 h=
 NT t3 fun a6=>
  V.ite a6
  (Rn t3 h fun a7=>
  JK t2 a7 t4 h)
  (Ro fun a8=>
  JL t2 t3 t4 a8 h):=
 Gj (by kernel_rfl)
theorem Xy (t0:V):Cl 122 [t0] []=
 Ri [] fun a1 a2=>
  Rj t0 a2 fun a3=>
  Rk a3 a2 fun a4=>
  Rl a3 a2 fun a5=>
  JK a1 a5 a4 a2:=
 LY (by kernel_rfl)
def Ru (k:Rv):Rv:=
 k
def Rw (t0:V) (k:V→Rv):Rv:=
 (lenV P 198 (V.weak t0)).bind fun t13=>(AQ .eql t13 (V.int .i64 0)).bind fun t14=>k t14
def Xz (h:List V) (k:V→List V→Rv):Rv:=
 (JG P 167 0 []).bind fun v=>(Dt h v).bind fun r=>k r.1 r.2
def Rx (t0:V) (k:V→Rv):Rv:=
 (lenV P 198 (V.weak t0)).bind fun t17=>(AQ .eql t17 (V.int .i64 1)).bind fun t18=>k t18
def Ry (t0:V) (h:List V) (k:V→List V→Rv):Rv:=
 (AZ P 198 t0 (V.int .i64 0)).bind fun t20=>(GI h 167 t20).bind fun t21=>(Eb P 167 h (V.lst 5 .nil []) t21).bind fun v=>(Dt h v).bind fun r=>k r.1 r.2
def Rz (k:V→Rv):Rv:=
 k (V.int .i64 0)
def SA (t1:V) (k:V→Rv):Rv:=
 (lenV P 167 (V.weak t1)).bind fun t24=>(AQ .gtr t24 (V.int .i64 0)).bind fun t25=>k t25
def Oj (t0:V) (k:V→V→V→Rv):Rv:=
 (lenV P 198 (V.weak t0)).bind fun t43=>k (V.weak t0) t43 (V.int .i64 0)
def JP (t0 t1 t5 t42 t43 t44:V) (h:List V):Rv:=lp W 140 0 (cd 140 607) (bk 0 (sk 140 0 127 (lv 140 0))) ⟨[(0,t0),(1,t1),(5,t5),(42,t42),(43,t43),(44,t44)],h⟩
def Jw (t43 t44:V) (k:V→Rv):Rv:=
 (AQ .lss t44 t43).bind fun t45=>k t45
def Ol (t42 t44:V) (h:List V) (k:V→Rv):Rv:=
 (AZ P 198 t42 t44).bind fun t46=>(GI h 167 t46).bind fun t47=>k t47
def Om (t5 t7:V) (k:V→Rv):Rv:=
 (lenV P 167 (V.weak t7)).bind fun t49=>(AQ .sub (V.int .i64 9223372036854775807) t5).bind fun t51=>(AQ .gtr t49 t51).bind fun t52=>k t52
def Oo (t5 t7:V) (k:V→Rv):Rv:=
 (lenV P 167 t7).bind fun t56=>(AQ .add t5 t56).bind fun t57=>k t57
def Oq (t44:V) (k:V→Rv):Rv:=
 (AQ .add t44 (V.int .i64 1)).bind fun t58=>k t58
def Ot (t5:V) (h:List V) (k:V→List V→Rv):Rv:=
 Xj P 0 149 [t5] h fun t60 a1=>(LP P 167 t60 none (some t5) (some t5)).bind fun t63=>k t63 a1
def Ou (t0 t8:V) (h:List V) (k:V→List V→Rv):Rv:=
 (AZ P 198 (V.weak t0) (V.int .i64 0)).bind fun t66=>(GI h 167 t66).bind fun t67=>(Xi P 167 h (V.weak t8) t67).bind fun r=>k r.1 r.2
def Ov (t0:V) (k:V→V→V→Rv):Rv:=
 (LP P 198 t0 (some (V.int .i64 1)) none none).bind fun t70=>(lenV P 198 t70).bind fun t71=>k t70 t71 (V.int .i64 0)
def JQ (t1 t8 t9 t70 t71 t72:V) (h:List V):Rv:=lp W 140 2 (cd 140 4863) (bk 2 (sk 140 0 1023 (lv 140 0))) ⟨[(1,t1),(8,t8),(9,t9),(70,t70),(71,t71),(72,t72)],h⟩
def Jy (t71 t72:V) (k:V→Rv):Rv:=
 (AQ .lss t72 t71).bind fun t73=>k t73
def Ox (t70 t72:V) (h:List V) (k:V→Rv):Rv:=
 (AZ P 198 t70 t72).bind fun t74=>(GI h 167 t74).bind fun t75=>k t75
def Oy (t1 t8 t9:V) (h:List V) (k:V→List V→Rv):Rv:=
 (LP P 167 (V.weak t8) (some t9) none none).bind fun t79=>(Xi P 167 h t79 (V.weak t1)).bind fun r=>(AQ .add t9 r.1).bind fun t82=>k t82 r.2
def Oz (t8 t9 t11:V) (h:List V) (k:V→List V→Rv):Rv:=
 (LP P 167 (V.weak t8) (some t9) none none).bind fun t86=>(Xi P 167 h t86 t11).bind fun r=>(AQ .add t9 r.1).bind fun t89=>k t89 r.2
def O0 (t72:V) (k:V→Rv):Rv:=
 (AQ .add t72 (V.int .i64 1)).bind fun t90=>k t90
def O3 (t8:V) (k:V→Rv):Rv:=
 k t8
theorem Jz (t1 t8 t9 t70 t71 t72:V) (h:List V):JQ t1 t8 t9 t70 t71 t72 h=
 Jy t71 t72 fun a25=>
  V.ite a25
  (Ox t70 t72 h fun a26=>
  Oy t1 t8 t9 h fun a27 a28=>
  Oz t8 a27 a26 a28 fun a29 a30=>
  O0 t72 fun a31=>
  JQ t1 t8 a29 t70 t71 a31 a30)
  (O3 t8 fun a32=>
  LX 0 h a32):=
 Gj (by kernel_rfl)
theorem J3 (t0 t1 t5 t42 t43 t44:V) (h:List V):JP t0 t1 t5 t42 t43 t44 h=
 Jw t43 t44 fun a13=>
  V.ite a13
  (Ol t42 t44 h fun a14=>
  Om t5 a14 fun a15=>
  V.ite a15
  (none)
  (Oo t5 a14 fun a16=>
  Oq t44 fun a17=>
  JP t0 t1 a16 t42 t43 a17 h))
  (Ot t5 h fun a18 a19=>
  Ou t0 a18 a19 fun a20 a21=>
  Ov t0 fun a22 a23 a24=>
  JQ t1 a18 a20 a22 a23 a24 a21):=
 Gj (by kernel_rfl)
def X0 (t0 t1:V) (k:V→Rv):Rv:=
 (lenV P 167 (V.weak t1)).bind fun t27=>(lenV P 198 (V.weak t0)).bind fun t29=>(AQ .sub t29 (V.int .i64 1)).bind fun t30=>(AQ .quo (V.int .i64 9223372036854775807) t30).bind fun t31=>(AQ .geq t27 t31).bind fun t32=>k t32
def X3 (t0 t1 t5:V) (k:V→Rv):Rv:=
 (lenV P 167 (V.weak t1)).bind fun t36=>(lenV P 198 (V.weak t0)).bind fun t38=>(AQ .sub t38 (V.int .i64 1)).bind fun t39=>(AQ .mul t36 t39).bind fun t40=>(AQ .add t5 t40).bind fun t41=>k t41
theorem X4 (t0 t1:V):Cl 140 [t0,t1] []=
 Ru (Rw t0 fun a1=>
  V.ite a1
  (Xz [] fun a2 a3=>
  LX 0 a3 a2)
  (Rx t0 fun a4=>
  V.ite a4
  (Ry t0 [] fun a5 a6=>
  LX 0 a6 a5)
  (Rz fun a7=>
  SA t1 fun a8=>
  jn (fun a9=>Oj t0 fun a10 a11 a12=>
  JP t0 t1 a9 a10 a11 a12 [])
  (fun(j0:V→Rv)=>V.ite a8
  (X0 t0 t1 fun a33=>
  V.ite a33
  (none)
  (X3 t0 t1 a7 fun a34=>
  j0 a34))
  (j0 a7))))):=
 LY (Iq<|OT (fun K=>K ⟨[(0,t0),(1,t1)],[]⟩) (Gi<|Iq<|Iq<|OT (fun K u14=>K ⟨[(0,t0),(1,t1),(14,u14)],[]⟩) (funext fun a1=>Gi<|QZ (by kernel_rfl) (VL<|Gi<|Iq<|Iq<|OT (fun K u18=>K ⟨[(0,t0),(1,t1),(18,u18)],[]⟩) (funext fun a4=>Gi<|QZ (by kernel_rfl) (VL<|Gi<|Iq<|OT (fun K u5=>K ⟨[(0,t0),(1,t1),(5,u5)],[]⟩) (funext fun a7=>Gi<|Iq<|Iq<|OT (fun K u25=>K ⟨[(0,t0),(1,t1),(5,a7),(25,u25)],[]⟩) (funext fun a8=>Gi<|AC7 (fun K a9=>K ⟨[(0,t0),(1,t1),(5,a9)],[]⟩) (funext fun a9=>by kernel_rfl) (QZ (by kernel_rfl) (by kernel_rfl))))))))))
def SB (t0:V) (h:List V) (k:V→V→List V→Rv):Rv:=
 if(CO P 200 t0&&V.under (List.length h) t0)=true then k (V.ref (List.length h) [] 200) (V.ref (List.length (h++[t0])) [] 200) ((h++[t0])++[zero P 200])else none
def SC (h:List V) (k:V→List V→Rv):Rv:=
 k (V.ref (List.length h) [] 210) (h++[zero P 210])
def SE (k:V→Rv):Rv:=
 k (V.int .i64 0)
def JR (t1 t2 t4 t5 t23:V) (h:List V):Rv:=lp W 141 0 (cd 141 75) (bk 0 (sk 141 0 15 (lv 141 0))) ⟨[(1,t1),(2,t2),(4,t4),(5,t5),(23,t23)],h⟩
def NV (t23:V) (k:V→Rv):Rv:=
 (AQ .lss t23 (V.int .i64 16)).bind fun t24=>k t24
def SG (t23:V) (k:V→Rv):Rv:=
 k t23
def SH (t1 t6:V) (k:V→Rv):Rv:=
 (AQ .mul (V.int .i64 4) t6).bind fun t28=>(AQ .mul (V.int .i64 4) t6).bind fun t30=>(AQ .add t30 (V.int .i64 4)).bind fun t31=>(LP P 167 (V.weak t1) (some t28) (some t31) none).bind fun t32=>k t32
def NW (t5 t6 t7:V) (h:List V) (k:List V→Rv):Rv:=
 (AZ P 167 (V.weak t7) (V.int .i64 0)).bind fun t35=>(BK h 5 t35).bind fun t36=>(conv P h 5 58 t36).bind fun t37=>(AQ .shl t37 (V.int .u64 24)).bind fun t38=>(AZ P 167 (V.weak t7) (V.int .i64 1)).bind fun t40=>(BK h 5 t40).bind fun t41=>(conv P h 5 58 t41).bind fun t42=>(AQ .shl t42 (V.int .u64 16)).bind fun t43=>(AQ .or t38 t43).bind fun t44=>(AZ P 167 (V.weak t7) (V.int .i64 2)).bind fun t46=>(BK h 5 t46).bind fun t47=>(conv P h 5 58 t47).bind fun t48=>(AQ .shl t48 (V.int .u64 8)).bind fun t49=>(AQ .or t44 t49).bind fun t50=>(AZ P 167 (V.weak t7) (V.int .i64 3)).bind fun t52=>(BK h 5 t52).bind fun t53=>(conv P h 5 58 t53).bind fun t54=>(AQ .or t50 t54).bind fun t55=>(AZ P 210 t5 t6).bind fun t56=>(G6 P h 58 t56 t55).bind fun a1=>k a1
def SI (t23:V) (k:V→Rv):Rv:=
 (AQ .add t23 (V.int .i64 1)).bind fun t57=>k t57
def SK (k:V→Rv):Rv:=
 k (V.int .i64 16)
def JS (t2 t4 t5 t8:V) (h:List V):Rv:=lp W 141 2 (cd 141 151) (bk 2 (sk 141 0 31 (lv 141 0))) ⟨[(2,t2),(4,t4),(5,t5),(8,t8)],h⟩
def NY (t8:V) (k:V→Rv):Rv:=
 (AQ .lss t8 (V.int .i64 64)).bind fun t59=>k t59
def J4 (t5 t8:V) (h:List V) (k:V→Rv):Rv:=
 (AQ .sub t8 (V.int .i64 15)).bind fun t63=>(AZ P 210 t5 t63).bind fun t64=>(BK h 58 t64).bind fun t65=>(Cl 150 (AP h [t65,(V.int .i64 7)]) []).bind fun r=>(AQ .sub t8 (V.int .i64 15)).bind fun t68=>(AZ P 210 t5 t68).bind fun t69=>(BK h 58 t69).bind fun t70=>(Cl 150 (AP h [t70,(V.int .i64 18)]) []).bind fun a1=>(AQ .xor r.1 a1.1).bind fun t72=>(AQ .sub t8 (V.int .i64 15)).bind fun t74=>(AZ P 210 t5 t74).bind fun t75=>(BK h 58 t75).bind fun t76=>(AQ .shr t76 (V.int .u64 3)).bind fun t77=>(AQ .xor t72 t77).bind fun t78=>k t78
def J5 (t5 t8:V) (h:List V) (k:V→Rv):Rv:=
 (AQ .sub t8 (V.int .i64 2)).bind fun t80=>(AZ P 210 t5 t80).bind fun t81=>(BK h 58 t81).bind fun t82=>(Cl 150 (AP h [t82,(V.int .i64 17)]) []).bind fun r=>(AQ .sub t8 (V.int .i64 2)).bind fun t85=>(AZ P 210 t5 t85).bind fun t86=>(BK h 58 t86).bind fun t87=>(Cl 150 (AP h [t87,(V.int .i64 19)]) []).bind fun a1=>(AQ .xor r.1 a1.1).bind fun t89=>(AQ .sub t8 (V.int .i64 2)).bind fun t91=>(AZ P 210 t5 t91).bind fun t92=>(BK h 58 t92).bind fun t93=>(AQ .shr t93 (V.int .u64 10)).bind fun t94=>(AQ .xor t89 t94).bind fun t95=>k t95
def J6 (t5 t8 t9 t10:V) (h:List V) (k:List V→Rv):Rv:=
 (AQ .sub t8 (V.int .i64 16)).bind fun t98=>(AZ P 210 t5 t98).bind fun t99=>(BK h 58 t99).bind fun t100=>(AQ .sub t8 (V.int .i64 7)).bind fun t102=>(AZ P 210 t5 t102).bind fun t103=>(BK h 58 t103).bind fun t104=>(AQ .add t100 t104).bind fun t105=>(AQ .add t105 t9).bind fun t107=>(AQ .add t107 t10).bind fun t109=>(AZ P 210 t5 t8).bind fun t110=>(G6 P h 58 t110 t109).bind fun a1=>k a1
def O4 (t8:V) (k:V→Rv):Rv:=
 (AQ .add t8 (V.int .i64 1)).bind fun t61=>k t61
def O5 (t2:V) (h:List V) (k:V→List V→Rv):Rv:=
 (BK h 200 t2).bind fun t111=>(G6 P (h++[zero P 200]) 200 (V.ref (List.length h) [] 200) t111).bind fun a1=>k (V.ref (List.length h) [] 200) a1
def VY (k:V→Rv):Rv:=
 k (V.int .i64 0)
def JU (t2 t4 t5 t11 t112:V) (h:List V):Rv:=lp W 141 4 (cd 141 607) (bk 4 (sk 141 0 127 (lv 141 0))) ⟨[(2,t2),(4,t4),(5,t5),(11,t11),(112,t112)],h⟩
def J7 (t112:V) (k:V→Rv):Rv:=
 (AQ .lss t112 (V.int .i64 64)).bind fun t113=>k t113
def O6 (t112:V) (k:V→Rv):Rv:=
 k t112
def J8 (t11:V) (h:List V) (k:V→V→V→V→V→V→Rv):Rv:=
 (AZ P 200 t11 (V.int .i64 0)).bind fun t115=>(BK h 58 t115).bind fun t116=>(AZ P 200 t11 (V.int .i64 1)).bind fun t117=>(BK h 58 t117).bind fun t118=>(AZ P 200 t11 (V.int .i64 2)).bind fun t119=>(BK h 58 t119).bind fun t120=>(AZ P 200 t11 (V.int .i64 4)).bind fun t121=>(BK h 58 t121).bind fun t122=>(AZ P 200 t11 (V.int .i64 5)).bind fun t123=>(BK h 58 t123).bind fun t124=>(AZ P 200 t11 (V.int .i64 6)).bind fun t125=>(BK h 58 t125).bind fun t126=>k t116 t118 t120 t122 t124 t126
def J9 (t5 t11 t12 t16 t17 t18:V) (h:List V) (k:V→Rv):Rv:=
 (AZ P 200 t11 (V.int .i64 7)).bind fun t127=>(BK h 58 t127).bind fun t128=>(Cl 150 (AP h [t16,(V.int .i64 6)]) []).bind fun r=>(Cl 150 (AP h [t16,(V.int .i64 11)]) []).bind fun a1=>(AQ .xor r.1 a1.1).bind fun t133=>(Cl 150 (AP h [t16,(V.int .i64 25)]) []).bind fun a2=>(AQ .xor t133 a2.1).bind fun t136=>(AQ .add t128 t136).bind fun t137=>(AQ .xor t17 t18).bind fun t142=>(AQ .and t16 t142).bind fun t143=>(AQ .xor t18 t143).bind fun t144=>(AQ .add t137 t144).bind fun t145=>(AZ P 210 (V.rop 210 Jl) t12).bind fun t147=>(BK h 58 t147).bind fun t148=>(AQ .add t145 t148).bind fun t149=>(AZ P 210 t5 t12).bind fun t151=>(BK h 58 t151).bind fun t152=>(AQ .add t149 t152).bind fun t153=>k t153
def KA (t13 t14 t15:V) (h:List V) (k:V→Rv):Rv:=
 (Cl 150 (AP h [t13,(V.int .i64 2)]) []).bind fun r=>(Cl 150 (AP h [t13,(V.int .i64 13)]) []).bind fun a1=>(AQ .xor r.1 a1.1).bind fun t158=>(Cl 150 (AP h [t13,(V.int .i64 22)]) []).bind fun a2=>(AQ .xor t158 a2.1).bind fun t161=>(AQ .and t13 t14).bind fun t164=>(AQ .or t13 t14).bind fun t168=>(AQ .and t15 t168).bind fun t169=>(AQ .or t164 t169).bind fun t170=>(AQ .add t161 t170).bind fun t171=>k t171
def KC (t11 t13 t14 t15 t16 t17 t18 t19 t20:V) (h:List V) (k:List V→Rv):Rv:=
 (AQ .add t19 t20).bind fun t174=>(AZ P 200 t11 (V.int .i64 3)).bind fun t178=>(BK h 58 t178).bind fun t179=>(AQ .add t179 t19).bind fun t181=>(bld P 200 [(0,t174),(1,t13),(2,t14),(3,t15),(4,t181),(5,t16),(6,t17),(7,t18)]).bind fun t185=>(G6 P h 200 t11 t185).bind fun a1=>k a1
def O7 (t112:V) (k:V→Rv):Rv:=
 (AQ .add t112 (V.int .i64 1)).bind fun t186=>k t186
def O8 (t11:V) (h:List V) (k:V→V→Rv):Rv:=
 (BK h 200 t11).bind fun t187=>k t187 (V.int .i64 0)
def JV (t2 t4 t187 t188:V) (h:List V):Rv:=lp W 141 6 (cd 141 1215) (bk 6 (sk 141 0 255 (lv 141 0))) ⟨[(2,t2),(4,t4),(187,t187),(188,t188)],h⟩
def KD (t188:V) (k:V→Rv):Rv:=
 (AQ .lss t188 (V.int .i64 8)).bind fun t189=>k t189
def O9 (t187 t188:V) (k:V→V→Rv):Rv:=
 (IQ P 200 t187 t188).bind fun t191=>k t188 t191
def PD (t2 t21 t22:V) (h:List V) (k:List V→Rv):Rv:=
 (AZ P 200 t2 t21).bind fun t193=>(BK h 58 t193).bind fun t194=>(AQ .add t194 t22).bind fun t196=>(AZ P 200 t2 t21).bind fun t197=>(G6 P h 58 t197 t196).bind fun a1=>k a1
def PE (t188:V) (k:V→Rv):Rv:=
 (AQ .add t188 (V.int .i64 1)).bind fun t198=>k t198
def PG (t2 t4:V) (h:List V) (k:List V→Rv):Rv:=
 (BK h 200 t2).bind fun t199=>(G6 P h 200 t4 t199).bind fun a1=>k a1
theorem KE (t2 t4 t187 t188:V) (h:List V):JV t2 t4 t187 t188 h=
 KD t188 fun a35=>
  V.ite a35
  (O9 t187 t188 fun a36 a37=>
  PD t2 a36 a37 h fun a38=>
  PE t188 fun a39=>
  JV t2 t4 t187 a39 a38)
  (PG t2 t4 h fun a40=>
  (BK a40 200 t4).bind fun a41=>Be 0 a40 a41):=
 Gj (by kernel_rfl)
theorem KF (t2 t4 t5 t11 t112:V) (h:List V):JU t2 t4 t5 t11 t112 h=
 J7 t112 fun a21=>
  V.ite a21
  (O6 t112 fun a22=>
  J8 t11 h fun a23 a24 a25 a26 a27 a28=>
  J9 t5 t11 a22 a26 a27 a28 h fun a29=>
  KA a23 a24 a25 h fun a30=>
  KC t11 a23 a24 a25 a26 a27 a28 a29 a30 h fun a31=>
  O7 t112 fun a32=>
  JU t2 t4 t5 t11 a32 a31)
  (O8 t11 h fun a33 a34=>
  JV t2 t4 a33 a34 h):=
 Gj (by kernel_rfl)
theorem KG (t2 t4 t5 t8:V) (h:List V):JS t2 t4 t5 t8 h=
 NY t8 fun a13=>
  V.ite a13
  (J4 t5 t8 h fun a14=>
  J5 t5 t8 h fun a15=>
  J6 t5 t8 a14 a15 h fun a16=>
  O4 t8 fun a17=>
  JS t2 t4 t5 a17 a16)
  (O5 t2 h fun a18 a19=>
  VY fun a20=>
  JU t2 t4 t5 a18 a20 a19):=
 Gj (by kernel_rfl)
theorem KH (t1 t2 t4 t5 t23:V) (h:List V):JR t1 t2 t4 t5 t23 h=
 NV t23 fun a7=>
  V.ite a7
  (SG t23 fun a8=>
  SH t1 a8 fun a9=>
  NW t5 a8 a9 h fun a10=>
  SI t23 fun a11=>
  JR t1 t2 t4 t5 a11 a10)
  (SK fun a12=>
  JS t2 t4 t5 a12 h):=
 Gj (by kernel_rfl)
theorem X5 (t0 t1:V):Cl 141 [t0,t1] []=
 SB t0 [] fun a1 a2 a3=>
  SC a3 fun a4 a5=>
  SE fun a6=>
  JR t1 a1 a2 a4 a6 a5:=
 LY (by kernel_rfl)
def SL (k:Rv):Rv:=
 k
def SN (t0 t1:V) (k:V→Rv):Rv:=
 (un .neg t1).bind fun t7=>(Cl 160 (AP [] [t0,t7]) []).bind fun r=>k r.1
theorem X6 (t0 t1:V):Cl 150 [t0,t1] []=
 SL (SN t0 t1 fun a1=>
  Be 0 [] a1):=
 LY (by kernel_rfl)
def SQ (k:Rv):Rv:=
 k
def SS (t1:V) (k:V→Rv):Rv:=
 (conv P [] 3 169 t1).bind fun t7=>(AQ .and t7 (V.int .u64 31)).bind fun t8=>k t8
def SV (t0 t5:V) (k:V→Rv):Rv:=
 (AQ .shl t0 t5).bind fun t11=>(AQ .sub (V.int .u64 32) t5).bind fun t14=>(AQ .shr t0 t14).bind fun t15=>(AQ .or t11 t15).bind fun t16=>k t16
theorem X7 (t0 t1:V):Cl 160 [t0,t1] []=
 SQ (SS t1 fun a1=>
  SV t0 a1 fun a2=>
  Be 0 [] a2):=
 LY (by kernel_rfl)
end
end Go.Proofs.YtkelgdjhpgefnaaGreatDoor
