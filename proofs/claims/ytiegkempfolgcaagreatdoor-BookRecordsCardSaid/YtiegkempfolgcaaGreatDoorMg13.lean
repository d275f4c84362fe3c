/-
  Part of the proof of a statement about the given program: an abstract machine over its code, the simulation, its functions' equations, what they compute.
-/
import Derived.Test.YtiegkempfolgcaaGreatDoorMg12
import Derived.Test.YtiegkempfolgcaaGreatDoorMg5
set_option linter.unusedVariables false
set_option linter.unusedSimpArgs false
set_option linter.unusedSectionVars false
set_option maxRecDepth 100000
noncomputable section
namespace Go.Proofs.YtiegkempfolgcaaGreatDoor
section
open Go AM
set_option maxHeartbeats 4000000 in
theorem AFb:Cl 9 [] []=some (.bool true,[]):=by
 obtain⟨p0,p1,q0,q1,hnb⟩:=nb0
 have hN:Cl 10 [vG .sh g0,vJ j0,.int .i64 2] []=some (.tup [vB (Dk false p0 p1 q0 q1),.int .i64 0],[]):=by
  have h:=AIZ (g:=g0) (by simp[g0]) j0 2
  rw[if_pos AK8]at h
  rw[h,←hnb];rfl
 have e1:Cl 20 [vB (Dk false p0 p1 q0 q1),.int .i64 1] []=_:=ANL p0 p1 q0 q1
 have e2:Cl 17 [vB (Dk false p0 p1 q0 q1),.lst 60 .sh [Y9,Y9]] []=_:=ANM p0 p1 q0 q1
 have a1:=AGo p0 p1 p0 p1 q0 q1 q0 q1 hN
 have a2:=AGp false p0 p1 p0 p1 q0 q1 q0 q1 hN
 have rc:=ALC p0 p1 q0 q1 hN
 have mk:mkL 60 Y9 (.int .i64 2) (.int .i64 2)=some (.lst 60 .own [Y9,Y9]):=rfl
 rw[AJk]
 rw[show mkL 60 _ (.int .i64 2) (.int .i64 2)=some (.lst 60 .own [Y9,Y9])from mk]
 have ry:∀h,V.reify h (.lst 60 .own [Y9,Y9])= .lst 60 .sh [Y9,Y9]:=fun _=>rfl
 generalize Ol=acc at*
 generalize Y9=z at*
 simp only[vG,vJ,g0,j0,List.map_nil]at hN a1 a2 rc
 have d1:((Dk false p0 p1 q0 q1).gone.length:Int)=2:=rfl
 have d2:(Dk true p0 p1 q0 q1).step=0:=rfl
 have d3:(bk1 false).step=1:=rfl
 have d4:(bk1 true).step=1:=rfl
 have x1:Di 4 (.lst 4 .sh ((Dk true p0 p1 q0 q1).gone.map V.bool)) (.int .i64 1)=some (.rop 4 (.bool true)):=rfl
 have x2:Di 4 (.lst 4 .sh ((Dk true p0 p1 q0 q1).gone.map V.bool)) (.int .i64 0)=some (.rop 4 (.bool false)):=rfl
 have x3:Di 4 (.lst 4 .sh ((bk1 true).gone.map V.bool)) (.int .i64 1)=some (.rop 4 (.bool true)):=rfl
 (repeat' with_reducible first|refine(Aq _ _).trans ?_|refine(Au _ _).trans ?_|refine(AA _ _).trans ?_|((first|(refine' (AB ?_ _).trans ?_;rotate_left)|refine(if_pos ?_).trans ?_|refine(AZ ?_ _ _).trans ?_);focus (first|rfl|(simp(disch:=first|assumption|omega|with_reducible rfl|(simp only[go_sem]<;>omega)|fail) only[↓reduceIte,↓AA,Nat.reduceAdd,go_sem,Bool.not_true,Bool.not_false,hN,e1,e2,a1,a2,rc,mk,ry,x1,x2,x3]<;>first|rfl|omega)|assumption|omega))|(refine(AQ ?_ _ _).trans ?_;focus (first|(simp(disch:=first|assumption|omega|with_reducible rfl|(simp only[go_sem]<;>omega)|fail) only[↓reduceIte,↓AA,Nat.reduceAdd,go_sem,Bool.not_true,Bool.not_false,hN,e1,e2,a1,a2,rc,mk,ry,x1,x2,x3]<;>omega)|assumption|omega))|fail)
 rfl
end
section
open Go AM
theorem e69:Aa 69=[69]:=by decide+kernel
theorem XL {b:Bk} (hb:b.gone.length≤1000000) (w:Int):Cl 21 [vB b,.int .i64 w] []=some (.tup [.str (if FZ b w=true then Aa 69++Aa w.toNat else[]),.bool (FZ b w)],[]):=by
 have L1:=DF 4 .sh V.bool b.gone
 by_cases h0:w<0
 ·have ls:AO .lss (.int .i64 w) (.int .i64 0)=some (.bool true):=by rw[b_lss,decide_eq_true h0]
  have m:FZ b w=false:=by simp[FZ];omega
  rw[m,if_neg (by simp),Rz]
  simp only[vB,GR]
  (repeat' with_reducible first|refine(Aq _ _).trans ?_|refine(Au _ _).trans ?_|refine(AA _ _).trans ?_|((first|(refine' (AB ?_ _).trans ?_;rotate_left)|refine(if_pos ?_).trans ?_|refine(AZ ?_ _ _).trans ?_);focus (first|rfl|(simp(disch:=first|assumption|omega|with_reducible rfl|(simp only[go_sem]<;>omega)|fail) only[↓reduceIte,↓AA,Nat.reduceAdd,go_sem,Bool.not_true,Bool.not_false,ls]<;>first|rfl|omega)|assumption|omega))|(refine(AQ ?_ _ _).trans ?_;focus (first|(simp(disch:=first|assumption|omega|with_reducible rfl|(simp only[go_sem]<;>omega)|fail) only[↓reduceIte,↓AA,Nat.reduceAdd,go_sem,Bool.not_true,Bool.not_false,ls]<;>omega)|assumption|omega))|fail)
  rfl
 obtain⟨n,rfl⟩:=Int.eq_ofNat_of_zero_le (show 0≤w by omega)
 have ls:AO .lss (.int .i64 (n:Int)) (.int .i64 0)=some (.bool false):=by rw[b_lss,decide_eq_false (by omega)]
 by_cases h1:n<b.gone.length
 rotate_left
 ·have ge:AO .geq (.int .i64 (n:Int)) (.int .i64 (b.gone.length:Int))=some (.bool true):=by rw[b_geq,decide_eq_true (by omega)]
  have m:FZ b (n:Int)=false:=by simp[FZ,List.getElem?_eq_none (show b.gone.length≤n by omega)]
  rw[m,if_neg (by simp),Rz]
  simp only[vB,GR]
  generalize (b.gone.length:Int)=z at*
  generalize b.gone.map V.bool=B at*
  (repeat' with_reducible first|refine(Aq _ _).trans ?_|refine(Au _ _).trans ?_|refine(AA _ _).trans ?_|((first|(refine' (AB ?_ _).trans ?_;rotate_left)|refine(if_pos ?_).trans ?_|refine(AZ ?_ _ _).trans ?_);focus (first|rfl|(simp(disch:=first|assumption|omega|with_reducible rfl|(simp only[go_sem]<;>omega)|fail) only[↓reduceIte,↓AA,Nat.reduceAdd,go_sem,Bool.not_true,Bool.not_false,ls,L1,ge]<;>first|rfl|omega)|assumption|omega))|(refine(AQ ?_ _ _).trans ?_;focus (first|(simp(disch:=first|assumption|omega|with_reducible rfl|(simp only[go_sem]<;>omega)|fail) only[↓reduceIte,↓AA,Nat.reduceAdd,go_sem,Bool.not_true,Bool.not_false,ls,L1,ge]<;>omega)|assumption|omega))|fail)
  rfl
 have ge:AO .geq (.int .i64 (n:Int)) (.int .i64 (b.gone.length:Int))=some (.bool false):=by rw[b_geq,decide_eq_false (by omega)]
 have at_:(b.gone.map V.bool)[n]?=some (.bool b.gone[n]):=by simp[h1]
 have ix:Di 4 (.lst 4 .sh (b.gone.map V.bool)) (.int .i64 (n:Int))=some (.rop 4 (.bool b.gone[n])):=Ie (f:= .sh) at_
 have m:FZ b (n:Int)= !b.gone[n]:=by
  have:decide ((0:Int)≤(n:Int))=true:=decide_eq_true (by omega)
  rw[FZ,this,Bool.true_and,Int.toNat_natCast,List.getElem?_eq_getElem h1]
  cases b.gone[n]<;>simp
 have cv:F9 .u64 (.int .i64 (n:Int))=some (.int .u64 (n:Int)):=cvI_u64 (by omega) (by omega)
 have nm:=DZ (n:=n) (by omega)
 have nl:=Ac 10 n
 have a1:AO .add (.str [69]) (.str (Aa n))=some (.str ([69]++Aa n)):=ET (by simp only[Aa,List.length_cons,List.length_nil];omega)
 rw[m,e69,Int.toNat_natCast]
 cases hg:b.gone[n]with
 |true=>
  rw[hg]at ix
  rw[Bool.not_true,if_neg (by simp),Rz]
  simp only[vB,GR]
  clear hg at_
  generalize (b.gone.length:Int)=z at*
  generalize b.gone.map V.bool=B at*
  (repeat' with_reducible first|refine(Aq _ _).trans ?_|refine(Au _ _).trans ?_|refine(AA _ _).trans ?_|((first|(refine' (AB ?_ _).trans ?_;rotate_left)|refine(if_pos ?_).trans ?_|refine(AZ ?_ _ _).trans ?_);focus (first|rfl|(simp(disch:=first|assumption|omega|with_reducible rfl|(simp only[go_sem]<;>omega)|fail) only[↓reduceIte,↓AA,Nat.reduceAdd,go_sem,Bool.not_true,Bool.not_false,ls,L1,ge,ix]<;>first|rfl|omega)|assumption|omega))|(refine(AQ ?_ _ _).trans ?_;focus (first|(simp(disch:=first|assumption|omega|with_reducible rfl|(simp only[go_sem]<;>omega)|fail) only[↓reduceIte,↓AA,Nat.reduceAdd,go_sem,Bool.not_true,Bool.not_false,ls,L1,ge,ix]<;>omega)|assumption|omega))|fail)
  rfl
 |false=>
  rw[hg]at ix
  rw[Bool.not_false,if_pos rfl,Rz]
  simp only[vB,GR]
  clear hg at_
  generalize [69]++Aa n=x2 at*
  generalize Aa n=x1 at*
  generalize (b.gone.length:Int)=z at*
  generalize b.gone.map V.bool=B at*
  (repeat' with_reducible first|refine(Aq _ _).trans ?_|refine(Au _ _).trans ?_|refine(AA _ _).trans ?_|((first|(refine' (AB ?_ _).trans ?_;rotate_left)|refine(if_pos ?_).trans ?_|refine(AZ ?_ _ _).trans ?_);focus (first|rfl|(simp(disch:=first|assumption|omega|with_reducible rfl|(simp only[go_sem]<;>omega)|fail) only[↓reduceIte,↓AA,Nat.reduceAdd,go_sem,Bool.not_true,Bool.not_false,ls,L1,ge,ix,cv,nm,a1]<;>first|rfl|omega)|assumption|omega))|(refine(AQ ?_ _ _).trans ?_;focus (first|(simp(disch:=first|assumption|omega|with_reducible rfl|(simp only[go_sem]<;>omega)|fail) only[↓reduceIte,↓AA,Nat.reduceAdd,go_sem,Bool.not_true,Bool.not_false,ls,L1,ge,ix,cv,nm,a1]<;>omega)|assumption|omega))|fail)
  rfl
theorem AFc {b:Bk} {l:List Vd} (hr:b.roots.length≤8) (h64:b.step<9223372036854775808) (hl:l.length≤8) (hv:∀v∈l,Oo v):∃(X:List UInt8) (ok:Bool),
 Cl 17 [vB b,.lst 60 .sh (l.map BO)] []=some (.tup [.str X,.int .i64 (if ok=true then 0 else 170)],[])∧
 Cl 19 [vB b,.lst 60 .sh (l.map BO)] []=some (.tup [.str X,.bool ok],[]):=by
 rw[XJ hr h64 hl hv,VZ hr h64 hl hv]
 by_cases ho:okA b l=true
 ·rw[if_pos ho,if_pos ho,AFY,Ot]
  by_cases hc:Ja (Aw l)=true
  ·rw[if_pos hc,if_pos hc];exact⟨_,true,rfl,rfl⟩
  ·rw[if_neg hc,if_neg hc];exact⟨_,false,rfl,rfl⟩
 ·rw[if_neg ho,if_neg ho];exact⟨_,false,rfl,rfl⟩
def AIu (b:Bk):Prop:=I64 b.step∧(∀r∈b.roots,r.length=32)∧b.known.length<9223372036854775808∧(∀k∈b.known,k.length<9223372036854775808)∧∀m∈b.sent,Z9 m
def AIv (v:Vd):Prop:=v.root.length=32∧v.known.length<9223372036854775808∧∀m∈v.sent,Z9 m
theorem AIw {b:Bk} (h:AIu b) (hf:AAC b=true):BkOk b:=by
 simp only[AAC,Bool.and_eq_true,List.all_eq_true,decide_eq_true_eq]at hf
 obtain⟨h1,h2,h3,h4,h5⟩:=hf
 exact⟨by omega,by omega,by omega,fun k hk=>by have:=(h1 k hk).1;omega,h.2.1,by omega⟩
theorem AFd {l:List Vd} (h:∀v∈l,AIv v) (hf:ACy l=true):l.length≤8∧∀v∈l,Oo v:=by
 simp only[ACy,Jc,Bool.and_eq_true,List.all_eq_true,decide_eq_true_eq]at hf
 exact⟨hf.2,fun v hv=>⟨(h v hv).1,(hf.1 v hv).1.2,(hf.1 v hv).1.1,(hf.1 v hv).2,(h v hv).2.2⟩⟩
theorem ALD (b:Bk):(vB b).pl=true:=by simp only[V.pl,Fj,Qu,IA,AIX,FW];rfl
theorem Ov {b:Bk} {l:List Vd} (hb:AIu b) (hv:∀v∈l,AIv v) (hl:l.length<9223372036854775808) (w:Int):
 Cl 4 [vB b,.lst 60 .sh (l.map BO),.int .i64 w] []=some (.bool true,[]):=by
 have hA:=AFb
 have f1:=AFR hb.2.2.1 hb.2.2.2.1
 have f2:Cl 16 [.lst 60 .sh (l.map BO)] []=_:=AFT hl (fun v h=>(hv v h).2.1)
 have pb:=V.PF _ (ALD b)
 have wb:=pb.weak
 have ub:=pb.under 0
 have tb:BJ Zz (vB b)=true:=Gj ..
 have r1:∀h,AL h [vB b]=[vB b]:=fun h=>by simp only[AL,pb.reify]
 have r2:∀h,AL h [vB b,V.lst 60 .own (l.map BO)]=[vB b,V.lst 60 .sh (l.map BO)]:=fun h=>by simp only[AL,pb.reify];rfl
 have r2':∀h,AL h [vB b,V.lst 60 .sh (l.map BO)]=[vB b,V.lst 60 .sh (l.map BO)]:=fun h=>by simp only[AL,pb.reify];rfl
 have r3:∀h,AL h [vB b,V.int .i64 w]=[vB b,V.int .i64 w]:=fun h=>by simp only[AL,pb.reify];rfl
 have r4:∀h,AL h [V.lst 60 .sh (l.map BO)]=[V.lst 60 .sh (l.map BO)]:=fun h=>rfl
 have r0:∀h,AL h []=[]:=fun h=>rfl
 have ld:BI [vB b] 33 (.ref 0 [] 33)=some (vB b):=by show some (vB b).weak=_;rw[wb]
 cases hf:AAC b with
 |false=>
  rw[hf]at f1
  rw[ABD]
  clear hv hf f2
  generalize l.map BO=L at*
  generalize vB b=B at*
  (repeat' with_reducible first|refine(Aq _ _).trans ?_|refine(Au _ _).trans ?_|refine(AA _ _).trans ?_|((first|(refine' (AB ?_ _).trans ?_;rotate_left)|refine(if_pos ?_).trans ?_|refine(AZ ?_ _ _).trans ?_);focus (first|rfl|(simp(disch:=first|assumption|omega|with_reducible rfl|(simp only[go_sem]<;>omega)|fail) only[↓reduceIte,↓AA,Nat.reduceAdd,go_sem,Bool.not_true,Bool.not_false,wb,tb,ub,hA,r0,ld,r1,f1]<;>first|rfl|omega)|assumption|omega))|(refine(AQ ?_ _ _).trans ?_;focus (first|(simp(disch:=first|assumption|omega|with_reducible rfl|(simp only[go_sem]<;>omega)|fail) only[↓reduceIte,↓AA,Nat.reduceAdd,go_sem,Bool.not_true,Bool.not_false,wb,tb,ub,hA,r0,ld,r1,f1]<;>omega)|assumption|omega))|fail)
  rfl
 |true=>
  rw[hf]at f1
  cases hg:ACy l with
  |false=>
   rw[hg]at f2
   rw[ABD]
   clear hv hf hg
   generalize l.map BO=L at*
   generalize vB b=B at*
   (repeat' with_reducible first|refine(Aq _ _).trans ?_|refine(Au _ _).trans ?_|refine(AA _ _).trans ?_|((first|(refine' (AB ?_ _).trans ?_;rotate_left)|refine(if_pos ?_).trans ?_|refine(AZ ?_ _ _).trans ?_);focus (first|rfl|(simp(disch:=first|assumption|omega|with_reducible rfl|(simp only[go_sem]<;>omega)|fail) only[↓reduceIte,↓AA,Nat.reduceAdd,go_sem,Bool.not_true,Bool.not_false,wb,tb,ub,hA,r0,ld,r1,f1,r4,f2]<;>first|rfl|omega)|assumption|omega))|(refine(AQ ?_ _ _).trans ?_;focus (first|(simp(disch:=first|assumption|omega|with_reducible rfl|(simp only[go_sem]<;>omega)|fail) only[↓reduceIte,↓AA,Nat.reduceAdd,go_sem,Bool.not_true,Bool.not_false,wb,tb,ub,hA,r0,ld,r1,f1,r4,f2]<;>omega)|assumption|omega))|fail)
   rfl
  |true=>
   rw[hg]at f2
   have ok:=AIw hb hf
   obtain⟨hl8,hvk⟩:=AFd hv hg
   simp only[AAC,Bool.and_eq_true,decide_eq_true_eq]at hf
   obtain⟨_,h2,h3,h4,h5⟩:=hf
   obtain⟨X,o,ea,er⟩:=AFc (b:=b) (l:=l) h3 hb.1.2 hl8 hvk
   have ev:=AAA ok.gone w
   have rv:=XL ok.gone w
   have ow:=ACv ok
   have hc:AU (l.map BO)=true:=(V.PFL _ (ZA l)).clean
   have ap:GK 60 (BJ tVd) true [vB b] (.lst 60 .own []) (.lst 60 .sh (l.map BO))=some (.lst 60 .own (l.map BO)):=by
    rw[H7 hc (AFP l) (by simp;omega),List.nil_append]
    have:nlB true (l.map BO)=l.map BO:=(V.PFL _ (ZA l)).norm
    rw[this]
   have n1:∀s:List UInt8,AO .neq (.str s) (.str s)=some (.bool false):=fun s=>by simp[AO]
   have n2:∀s:List UInt8,AO .eql (.str s) (.str s)=some (.bool true):=fun s=>by simp[AO]
   have e1:AO .eql (.int .i64 170) (.int .i64 0)=some (.bool false):=rfl
   have e2:AO .eql (.int .i64 0) (.int .i64 0)=some (.bool true):=rfl
   have e3:AO .eql (.int .i64 170) (.int .i64 170)=some (.bool true):=rfl
   have e4:AO .neq (.int .i64 170) (.int .i64 170)=some (.bool false):=rfl
   have e5:AO .neq (.int .i64 0) (.int .i64 0)=some (.bool false):=rfl
   have e6:AO .neq (.int .i64 170) (.int .i64 0)=some (.bool true):=rfl
   have q1:(false==false)=true:=rfl
   have q2:(true==true)=true:=rfl
   have q3:(false==true)=false:=rfl
   have q4:(true==false)=false:=rfl
   generalize (if FZ b w=true then Aa 69++Aa w.toNat else[])=Y at*
   generalize FZ b w=m at*
   rw[ABD]
   clear hv hg hb hc ok hvk h2 h3 h4 h5 hl hl8
   generalize l.map BO=L at*
   generalize vB b=B at*
   cases o<;>cases m
   all_goals simp only[Bool.false_eq_true,if_false,if_true]at ea ev
   all_goals (repeat' with_reducible first|refine(Aq _ _).trans ?_|refine(Au _ _).trans ?_|refine(AA _ _).trans ?_|((first|(refine' (AB ?_ _).trans ?_;rotate_left)|refine(if_pos ?_).trans ?_|refine(AZ ?_ _ _).trans ?_);focus (first|rfl|(simp(disch:=first|assumption|omega|with_reducible rfl|(simp only[go_sem]<;>omega)|fail) only[↓reduceIte,↓AA,Nat.reduceAdd,go_sem,Bool.not_true,Bool.not_false,wb,tb,ub,hA,r0,ld,r1,f1,r4,f2,ow,ap,r2,ea,r2',er,n1,n2,r3,ev,rv,e1,e2,e3,e4,e5,e6,q1,q2,q3,q4,Bool.not_true,Bool.not_false]<;>first|rfl|omega)|assumption|omega))|(refine(AQ ?_ _ _).trans ?_;focus (first|(simp(disch:=first|assumption|omega|with_reducible rfl|(simp only[go_sem]<;>omega)|fail) only[↓reduceIte,↓AA,Nat.reduceAdd,go_sem,Bool.not_true,Bool.not_false,wb,tb,ub,hA,r0,ld,r1,f1,r4,f2,ow,ap,r2,ea,r2',er,n1,n2,r3,ev,rv,e1,e2,e3,e4,e5,e6,q1,q2,q3,q4,Bool.not_true,Bool.not_false]<;>omega)|assumption|omega))|fail)
   all_goals rfl
end
end Go.Proofs.YtiegkempfolgcaaGreatDoor
