/-
  Part of the proof of a statement about the given program: an abstract machine over its code, the simulation, its functions' equations, what they compute.
-/
import Derived.Test.YtiegkempfolgcaaGreatDoorMg12
import Derived.Test.YtiegkempfolgcaaGreatDoorMg5
set_option linter.unusedVariables false
set_option linter.unusedSimpArgs false
set_option linter.unusedSectionVars false
set_option maxRecDepth 100000
noncomputable section
namespace Go.Proofs.YtiegkempfolgcaaGreatDoor
section
open Go AM
theorem ABg {f:FuncId} {id:Nat} {p:List Nat} {t:TypeId} {cs vs h h':List V} {v r:V} (he:Dn.ext f=false) (hp:Dn.pure f=false) (hh:h[id]?=some v) (haw:BZ id (h.set id void)=true)
 (hx:V.away id (.clo f cs)=true) (hv:BZ id vs=true) (hr:r.away id=true) (ha2:BZ id h'=true) (hlt:id<h'.length) (e:Cl f (AP (vs++cs)) (h.set id void)=some (r,h')) (k:V→List V→Rv) (hs:(Dn.seq f).1=0:=by kernel_rfl):
 CU P Dn W (some (.ref id p t)) (.clo f cs) vs h k=k r (h'.set id v):=by
 simp only[CU,hh,haw,hv,hx]
 rw[if_pos (show(true&&true&&true)=true from rfl),Gn _ he hp hs]
 refine(AB e _).trans ?_
 rw[if_pos (by rw[hr,ha2];simp only[Bool.true_and];exact Nat.ble_eq_true_of_le hlt)]
theorem Xd (s:List UInt8) (e:Nat):(BJ s e).2.1.length≤s.length:=by
 have:=EY s e
 rw[BJ]
 split
 ·exact this
 ·have:=(QF (AU s e).1 [] (AU s e).2.1 (AU s e).2.2).1
  show(textsIn (AU s e).1 [] (AU s e).2.1 (AU s e).2.2).2.1.length≤_
  omega
def J3:Nat→Int→List Bool→List (List UInt8)→List (List (List UInt8))→List UInt8→Nat→Bk×Bool×List UInt8×Nat
 |0,st,gone,rs,ks,s,e=>(⟨st,gone,rs,ks,(L6 (textIn 65536 s e).1).1⟩,decide ((L6 (textIn 65536 s e).1).2=0)&&decide (EM (textIn 65536 s e).2.1 (textIn 65536 s e).2.2=0),(textIn 65536 s e).2)
 |n+1,st,gone,rs,ks,s,e=>match(BJ (Ad s e).2.1 (Ad s e).2.2).1 with
  |none=>(zB,false,(BJ (Ad s e).2.1 (Ad s e).2.2).2)
  |some l=>J3 n st gone (rs++[(Ad s e).1]) (ks++[l]) (BJ (Ad s e).2.1 (Ad s e).2.2).2.1 (BJ (Ad s e).2.1 (Ad s e).2.2).2.2
theorem AMc {m:Nat} {st:Int} {gone:List Bool} {rs:List (List UInt8)} {ks:List (List (List UInt8))} {s:List UInt8} {e:Nat} (h:(BJ (Ad s e).2.1 (Ad s e).2.2).1=none):J3 (m+1) st gone rs ks s e=(zB,false,(BJ (Ad s e).2.1 (Ad s e).2.2).2):=by simp only[J3,h]
theorem AGK {m:Nat} {st:Int} {gone:List Bool} {rs:List (List UInt8)} {ks:List (List (List UInt8))} {s:List UInt8} {e:Nat} {l:List (List UInt8)} (h:(BJ (Ad s e).2.1 (Ad s e).2.2).1=some l):J3 (m+1) st gone rs ks s e=J3 m st gone (rs++[(Ad s e).1]) (ks++[l]) (BJ (Ad s e).2.1 (Ad s e).2.2).2.1 (BJ (Ad s e).2.1 (Ad s e).2.2).2.2:=by simp only[J3,h]
section
variable {a0 a1 a2 a3 a4 a6 a7 a8 a10:V}
theorem ARU (hw:BZ 11 [a0,a1,a2,a3,a4,a6,a7,a8,a10]=true) {o:V} {s:List UInt8} {e:Nat} (k:V→List V→Rv):
 CU P Dn W (some (.ref 11 [] 33)) (.clo 84 []) [CQ 5] (hA a0 a1 a2 a3 a4 (BG s e) a6 a7 a8 a10 o) k=k (Au (Ad s e).1) (hA a0 a1 a2 a3 a4 (BG (Ad s e).2.1 (Ad s e).2.2) a6 a7 a8 a10 o):=by
 simp only[BZ,Bool.and_eq_true]at hw
 obtain⟨h0,h1,h2,h3,h4,h6,h7,h8,h10,_⟩:=hw
 have w:∀s e,BZ 11 (hA a0 a1 a2 a3 a4 (BG s e) a6 a7 a8 a10 void)=true:=fun s e=>by
  simp only[hA,BZ,h0,h1,h2,h3,h4,h6,h7,h8,h10,(V.PF _ (AFp s e)).away,Bool.true_and];rfl
 exact(ABg (h:=hA a0 a1 a2 a3 a4 (BG s e) a6 a7 a8 a10 o) (v:=o) (cs:=[]) (vs:=[CQ 5]) (h':=hA a0 a1 a2 a3 a4 (BG (Ad s e).2.1 (Ad s e).2.2) a6 a7 a8 a10 void) (by kernel_rfl) (by kernel_rfl) (id:=11) rfl (w s e) rfl rfl ((V.PF _ (Jy _)).away 11) (w _ _) (by simp) (AId (id:=5) rfl) k).trans rfl
theorem APD (hw:BZ 11 [a0,a1,a2,a3,a4,a6,a7,a8,a10]=true) {o:V} {s:List UInt8} {e:Nat} (k:V→List V→Rv):
 CU P Dn W (some (.ref 11 [] 33)) (.clo 86 []) [CQ 5] (hA a0 a1 a2 a3 a4 (BG s e) a6 a7 a8 a10 o) k=k (.int .i64 (EM s e:Int)) (hA a0 a1 a2 a3 a4 (BG s e) a6 a7 a8 a10 o):=by
 simp only[BZ,Bool.and_eq_true]at hw
 obtain⟨h0,h1,h2,h3,h4,h6,h7,h8,h10,_⟩:=hw
 have w:∀s e,BZ 11 (hA a0 a1 a2 a3 a4 (BG s e) a6 a7 a8 a10 void)=true:=fun s e=>by
  simp only[hA,BZ,h0,h1,h2,h3,h4,h6,h7,h8,h10,(V.PF _ (AFp s e)).away,Bool.true_and];rfl
 exact(ABg (h:=hA a0 a1 a2 a3 a4 (BG s e) a6 a7 a8 a10 o) (v:=o) (cs:=[]) (vs:=[CQ 5]) (h':=hA a0 a1 a2 a3 a4 (BG s e) a6 a7 a8 a10 void) (by kernel_rfl) (by kernel_rfl) (id:=11) rfl (w s e) rfl rfl rfl (w _ _) (by simp) (Uu (id:=5) rfl) k).trans rfl
abbrev cLv:V:= .clo 81 [.ref 9 [] 101]
theorem ARV {o:V} {s:List UInt8} {e:Nat} (hs:s.length<4611686018427387904) (k:V→List V→Rv):
 CB P Dn W cLv [] (hA a0 a1 a2 a3 a4 (BG s e) a6 a7 a8 a10 o) k=k (vLv (BJ s e).1) (hA a0 a1 a2 a3 a4 (BG (BJ s e).2.1 (BJ s e).2.2) a6 a7 a8 a10 o):=
 Lm k (by kernel_rfl) (by kernel_rfl) (ACj hs)
theorem AGL (hw:BZ 11 [a0,a1,a2,a3,a4,a6,a7,a8,H8]=true) {N:Nat} (hN:N≤1000) {st:Int} {gone:List Bool}:∀(m i:Nat) (f:Fl) (rs:List (List UInt8)) (ks:List (List (List UInt8))) (s:List UInt8) (e:Nat),i+m=N→rs.length=i→ks.length=i→(f= .own∨f= .nil)→s.length<1000000000→
 UX (.ref 9 [] 101) (.ref 10 [] 33) (.ref 11 [] 33) cLv (.int .i64 (N:Int)) (.int .i64 (i:Int)) 7 (hA a0 a1 a2 a3 a4 (BG s e) a6 a7 a8 H8 (Jc .sh f f .nil ⟨st,gone,rs,ks,[]⟩))=
  some (.tup [vB (J3 m st gone rs ks s e).1,.bool (J3 m st gone rs ks s e).2.1],[a0,a1,a2,a3,a4,BG (J3 m st gone rs ks s e).2.2.1 (J3 m st gone rs ks s e).2.2.2,a6]):=by
 have l9:∀x o,Aa (hA a0 a1 a2 a3 a4 x a6 a7 a8 H8 o) 101 (.ref 9 [] 101)=some (CQ 5):=fun x o=>BR (Cm rfl)
 have sb11:∀p t,Ey (.ref 11 [] 33) (.ref 11 p t)=true:=fun _ _=>rfl
 have df11:MP (.ref 11 [] 33) (.ref 9 [] 101)=true:=rfl
 have sb9:Ey (.ref 9 [] 101) (.ref 9 [] 101)=true:=rfl
 have n6:AP [CQ 5,V.int .i64 65536]=[CQ 5,V.int .i64 65536]:=rfl
 intro m
 induction m with
 |zero=>
  intro i f rs ks s e hi h1 h2 hf hs
  have ls:AO .lss (.int .i64 (i:Int)) (.int .i64 (N:Int))=some (.bool false):=by rw[b_lss,decide_eq_false (by omega)]
  have tx:Cl 83 [CQ 5,.int .i64 65536] (hA a0 a1 a2 a3 a4 (BG s e) a6 a7 a8 H8 (Jc .sh f f .nil ⟨st,gone,rs,ks,[]⟩))=some (.str (textIn 65536 s e).1,hA a0 a1 a2 a3 a4 (BG (textIn 65536 s e).2.1 (textIn 65536 s e).2.2) a6 a7 a8 H8 (Jc .sh f f .nil ⟨st,gone,rs,ks,[]⟩)):=U1 65536 (by omega) (id:=5) rfl (by omega)
  have tl:(textIn 65536 s e).1.length≤65536:=by
   by_cases he:e=0
   ·subst he;exact Me _ _
   ·simp[textIn,he]
  have gt:Cl 85 [.str (textIn 65536 s e).1] []=some (.tup [.lst 108 .sh ((L6 (textIn 65536 s e).1).1.map Ac),.int .i64 ((L6 (textIn 65536 s e).1).2:Int)],[]):=AMW (by omega)
  have en:=fun o=>APD hw (o:=o) (s:=(textIn 65536 s e).2.1) (e:=(textIn 65536 s e).2.2)
  rw[J3,Rj]
  clear tl
  generalize (L6 (textIn 65536 s e).1).2=g2 at*
  generalize (L6 (textIn 65536 s e).1).1=g1 at*
  generalize EM (textIn 65536 s e).2.1 (textIn 65536 s e).2.2=e2 at*
  have rf:∀h:List V,AL h [V.str (textIn 65536 s e).1]=[V.str (textIn 65536 s e).1]:=fun h=>rfl
  generalize (textIn 65536 s e).1=t at*
  generalize BG (textIn 65536 s e).2.1 (textIn 65536 s e).2.2=x2 at*
  generalize BG s e=x at*
  simp only[hA]at*
  generalize CQ 5=r at*
  generalize cLv=c at*
  by_cases c1:g2=0
  ·subst c1
   have q1:AO .eql (.int .i64 ((0:Nat):Int)) (.int .i64 0)=some (.bool true):=rfl
   by_cases c2:e2=0
   ·subst c2
    rcases hf with rfl|rfl
    all_goals (repeat' with_reducible first|refine(Aj _ _).trans ?_|refine(Ak _ _).trans ?_|refine(AA _ _).trans ?_|((first|(refine' (AB ?_ _).trans ?_;rotate_left)|refine(if_pos ?_).trans ?_|refine(AX ?_ _ _).trans ?_);focus (first|rfl|(simp(disch:=first|assumption|omega|with_reducible rfl|(simp only[go_sem]<;>omega)|fail) only[↓reduceIte,↓AA,Nat.reduceAdd,go_sem,Bool.not_true,Bool.not_false,ls,l9,n6,tx,gt,rf,q1,EN,EO,sb11]<;>first|rfl|omega)|assumption|omega))|(refine(AQ ?_ _ _).trans ?_;focus (first|(simp(disch:=first|assumption|omega|with_reducible rfl|(simp only[go_sem]<;>omega)|fail) only[↓reduceIte,↓AA,Nat.reduceAdd,go_sem,Bool.not_true,Bool.not_false,ls,l9,n6,tx,gt,rf,q1,EN,EO,sb11]<;>omega)|assumption|omega))|fail)
    all_goals refine(en _ _).trans ?_
    all_goals (repeat' with_reducible first|refine(Aj _ _).trans ?_|refine(Ak _ _).trans ?_|refine(AA _ _).trans ?_|((first|(refine' (AB ?_ _).trans ?_;rotate_left)|refine(if_pos ?_).trans ?_|refine(AX ?_ _ _).trans ?_);focus (first|rfl|(simp(disch:=first|assumption|omega|with_reducible rfl|(simp only[go_sem]<;>omega)|fail) only[↓reduceIte,↓AA,Nat.reduceAdd,go_sem,Bool.not_true,Bool.not_false,q1]<;>first|rfl|omega)|assumption|omega))|(refine(AQ ?_ _ _).trans ?_;focus (first|(simp(disch:=first|assumption|omega|with_reducible rfl|(simp only[go_sem]<;>omega)|fail) only[↓reduceIte,↓AA,Nat.reduceAdd,go_sem,Bool.not_true,Bool.not_false,q1]<;>omega)|assumption|omega))|fail)
    all_goals simp(disch:=first|assumption|omega|(with_reducible rfl)|(simp only[go_sem];done)|(simp only[go_sem];omega)|fail) only[↓reduceIte,↓AA,Nat.reduceAdd,go_sem]
    all_goals rfl
   ·have q2:AO .eql (.int .i64 (e2:Int)) (.int .i64 0)=some (.bool false):=by rw[b_eql,decide_eq_false (by omega)]
    have q3:decide (e2=0)=false:=decide_eq_false c2
    rw[q3]
    clear c2 q3
    rcases hf with rfl|rfl
    all_goals (repeat' with_reducible first|refine(Aj _ _).trans ?_|refine(Ak _ _).trans ?_|refine(AA _ _).trans ?_|((first|(refine' (AB ?_ _).trans ?_;rotate_left)|refine(if_pos ?_).trans ?_|refine(AX ?_ _ _).trans ?_);focus (first|rfl|(simp(disch:=first|assumption|omega|with_reducible rfl|(simp only[go_sem]<;>omega)|fail) only[↓reduceIte,↓AA,Nat.reduceAdd,go_sem,Bool.not_true,Bool.not_false,ls,l9,n6,tx,gt,rf,q1,EN,EO,sb11]<;>first|rfl|omega)|assumption|omega))|(refine(AQ ?_ _ _).trans ?_;focus (first|(simp(disch:=first|assumption|omega|with_reducible rfl|(simp only[go_sem]<;>omega)|fail) only[↓reduceIte,↓AA,Nat.reduceAdd,go_sem,Bool.not_true,Bool.not_false,ls,l9,n6,tx,gt,rf,q1,EN,EO,sb11]<;>omega)|assumption|omega))|fail)
    all_goals refine(en _ _).trans ?_
    all_goals (repeat' with_reducible first|refine(Aj _ _).trans ?_|refine(Ak _ _).trans ?_|refine(AA _ _).trans ?_|((first|(refine' (AB ?_ _).trans ?_;rotate_left)|refine(if_pos ?_).trans ?_|refine(AX ?_ _ _).trans ?_);focus (first|rfl|(simp(disch:=first|assumption|omega|with_reducible rfl|(simp only[go_sem]<;>omega)|fail) only[↓reduceIte,↓AA,Nat.reduceAdd,go_sem,Bool.not_true,Bool.not_false,q2]<;>first|rfl|omega)|assumption|omega))|(refine(AQ ?_ _ _).trans ?_;focus (first|(simp(disch:=first|assumption|omega|with_reducible rfl|(simp only[go_sem]<;>omega)|fail) only[↓reduceIte,↓AA,Nat.reduceAdd,go_sem,Bool.not_true,Bool.not_false,q2]<;>omega)|assumption|omega))|fail)
    all_goals simp(disch:=first|assumption|omega|(with_reducible rfl)|(simp only[go_sem];done)|(simp only[go_sem];omega)|fail) only[↓reduceIte,↓AA,Nat.reduceAdd,go_sem]
    all_goals rfl
  ·have q1:AO .eql (.int .i64 (g2:Int)) (.int .i64 0)=some (.bool false):=by rw[b_eql,decide_eq_false (by omega)]
   have q3:decide (g2=0)=false:=decide_eq_false c1
   rw[q3]
   clear c1 q3
   rcases hf with rfl|rfl
   all_goals (repeat' with_reducible first|refine(Aj _ _).trans ?_|refine(Ak _ _).trans ?_|refine(AA _ _).trans ?_|((first|(refine' (AB ?_ _).trans ?_;rotate_left)|refine(if_pos ?_).trans ?_|refine(AX ?_ _ _).trans ?_);focus (first|rfl|(simp(disch:=first|assumption|omega|with_reducible rfl|(simp only[go_sem]<;>omega)|fail) only[↓reduceIte,↓AA,Nat.reduceAdd,go_sem,Bool.not_true,Bool.not_false,ls,l9,n6,tx,gt,rf,q1,EN,EO,sb11]<;>first|rfl|omega)|assumption|omega))|(refine(AQ ?_ _ _).trans ?_;focus (first|(simp(disch:=first|assumption|omega|with_reducible rfl|(simp only[go_sem]<;>omega)|fail) only[↓reduceIte,↓AA,Nat.reduceAdd,go_sem,Bool.not_true,Bool.not_false,ls,l9,n6,tx,gt,rf,q1,EN,EO,sb11]<;>omega)|assumption|omega))|fail)
   all_goals simp(disch:=first|assumption|omega|(with_reducible rfl)|(simp only[go_sem];done)|(simp only[go_sem];omega)|fail) only[↓reduceIte,↓AA,Nat.reduceAdd,go_sem]
   all_goals rfl
 |succ m ih=>
  intro i f rs ks s e hi h1 h2 hf hs
  have ls:AO .lss (.int .i64 (i:Int)) (.int .i64 (N:Int))=some (.bool true):=by rw[b_lss,decide_eq_true (by omega)]
  have ad:AO .add (.int .i64 (i:Int)) (.int .i64 1)=some (.int .i64 ((i+1:Nat):Int)):=by rw[DR,wrap_i64 (by omega) (by omega)];rfl
  have hh:=fun o k=>ARU hw (o:=o) (s:=s) (e:=e) k
  have hl:=Y2 s e
  have cc:=fun o k=>ARV (a0:=a0) (a1:=a1) (a2:=a2) (a3:=a3) (a4:=a4) (a6:=a6) (a7:=a7) (a8:=a8) (a10:=H8) (o:=o) (s:=(Ad s e).2.1) (e:=(Ad s e).2.2) (by omega) k
  have ll:=Xd (Ad s e).2.1 (Ad s e).2.2
  have ap:∀h:List V,G6 55 (BK 54) false h (.lst 55 f (rs.map Au)) (.lst 55 .own [Au (Ad s e).1])=some (.lst 55 .own ((rs++[(Ad s e).1]).map Au)):=fun h=>by
   have c:AY [Au (Ad s e).1]=true:=(V.PFL _ (EZ [(Ad s e).1])).clean
   have t:[Au (Ad s e).1].all (BK 54)=true:=all_map (fun _=>Hu ..) [(Ad s e).1]
   rw[AKE hf c t (by simp;omega),List.map_append]
   rcases hf with rfl|rfl<;>rfl
  have tk2:∀(x o0 o1 o3 o4:V) (g:Fl) (R:List V),Bd [a0,a1,a2,a3,a4,x,a6,a7,a8,CQ 5,H8,.agg Lr [o0,o1,.lst 55 g R,o3,o4]] 29 (.ref 11 [2] 29)=some (.lst 55 g R,[a0,a1,a2,a3,a4,x,a6,a7,a8,CQ 5,H8,.agg Lr [o0,o1,.lst 55 g.wk R,o3,o4]]):=
   fun x o0 o1 o3 o4 g R=>IY (h:=[a0,a1,a2,a3,a4,x,a6,a7,a8,CQ 5,H8,.agg Lr [o0,o1,.lst 55 g R,o3,o4]]) (id:=11) rfl rfl
  have tk3:∀(x o0 o1 o2 o4:V) (g:Fl) (R:List V),Bd [a0,a1,a2,a3,a4,x,a6,a7,a8,CQ 5,H8,.agg Lr [o0,o1,o2,.lst 58 g R,o4]] 30 (.ref 11 [3] 30)=some (.lst 58 g R,[a0,a1,a2,a3,a4,x,a6,a7,a8,CQ 5,H8,.agg Lr [o0,o1,o2,.lst 58 g.wk R,o4]]):=
   fun x o0 o1 o2 o4 g R=>IY (h:=[a0,a1,a2,a3,a4,x,a6,a7,a8,CQ 5,H8,.agg Lr [o0,o1,o2,.lst 58 g R,o4]]) (id:=11) rfl rfl
  have no1:V.noOwn (.lst 9 .nil [])=true:=rfl
  have w1:V.weak (.lst 9 .nil [])= .lst 9 .nil []:=rfl
  have en1:IA .eql (.lst 9 .nil []) (.lst 9 .nil [])=some (.bool true):=rfl
  have no2:∀X,V.noOwn (.lst 9 .non X)=true:=fun _=>rfl
  have w2:∀X,V.weak (.lst 9 .non X)= .lst 9 .non X:=fun _=>rfl
  have en2:∀X,IA .eql (.lst 9 .non X) (.lst 9 .nil [])=some (.bool false):=fun X=>by cases X<;>rfl
  have df:(MP (.ref 11 [] 33) (.ref 9 [] 101)&&true)=true:=rfl
  rw[Rj]
  cases hlv:(BJ (Ad s e).2.1 (Ad s e).2.2).1 with
  |none=>
   rw[hlv]at cc
   have ac:J3 (m+1) st gone rs ks s e=(zB,false,(BJ (Ad s e).2.1 (Ad s e).2.2).2):=AMc hlv
   rw[ac]
   clear ac ih hlv ll hl
   generalize (BJ (Ad s e).2.1 (Ad s e).2.2).2=lv at*
   generalize BG lv.1 lv.2=x3 at*
   generalize BG (Ad s e).2.1 (Ad s e).2.2=x2 at*
   generalize (Ad s e).1=t at*
   generalize BG s e=x at*
   simp only[hA]at*
   generalize CQ 5=r at*
   generalize cLv=c at*
   rcases hf with rfl|rfl
   all_goals (repeat' with_reducible first|refine(Aj _ _).trans ?_|refine(Ak _ _).trans ?_|refine(AA _ _).trans ?_|((first|(refine' (AB ?_ _).trans ?_;rotate_left)|refine(if_pos ?_).trans ?_|refine(AX ?_ _ _).trans ?_);focus (first|rfl|(simp(disch:=first|assumption|omega|with_reducible rfl|(simp only[go_sem]<;>omega)|fail) only[↓reduceIte,↓AA,Nat.reduceAdd,go_sem,Bool.not_true,Bool.not_false,ls,l9,df,sb11,sb9,tk2,EN,EO]<;>first|rfl|omega)|assumption|omega))|(refine(AQ ?_ _ _).trans ?_;focus (first|(simp(disch:=first|assumption|omega|with_reducible rfl|(simp only[go_sem]<;>omega)|fail) only[↓reduceIte,↓AA,Nat.reduceAdd,go_sem,Bool.not_true,Bool.not_false,ls,l9,df,sb11,sb9,tk2,EN,EO]<;>omega)|assumption|omega))|fail)
   all_goals refine(hh _ _).trans ?_
   all_goals (repeat' with_reducible first|refine(Aj _ _).trans ?_|refine(Ak _ _).trans ?_|refine(AA _ _).trans ?_|((first|(refine' (AB ?_ _).trans ?_;rotate_left)|refine(if_pos ?_).trans ?_|refine(AX ?_ _ _).trans ?_);focus (first|rfl|(simp(disch:=first|assumption|omega|with_reducible rfl|(simp only[go_sem]<;>omega)|fail) only[↓reduceIte,↓AA,Nat.reduceAdd,go_sem,Bool.not_true,Bool.not_false,ap]<;>first|rfl|omega)|assumption|omega))|(refine(AQ ?_ _ _).trans ?_;focus (first|(simp(disch:=first|assumption|omega|with_reducible rfl|(simp only[go_sem]<;>omega)|fail) only[↓reduceIte,↓AA,Nat.reduceAdd,go_sem,Bool.not_true,Bool.not_false,ap]<;>omega)|assumption|omega))|fail)
   all_goals refine(cc _ _).trans ?_
   all_goals simp only[vLv]
   all_goals (repeat' with_reducible first|refine(Aj _ _).trans ?_|refine(Ak _ _).trans ?_|refine(AA _ _).trans ?_|((first|(refine' (AB ?_ _).trans ?_;rotate_left)|refine(if_pos ?_).trans ?_|refine(AX ?_ _ _).trans ?_);focus (first|rfl|(simp(disch:=first|assumption|omega|with_reducible rfl|(simp only[go_sem]<;>omega)|fail) only[↓reduceIte,↓AA,Nat.reduceAdd,go_sem,Bool.not_true,Bool.not_false,no1,w1,en1]<;>first|rfl|omega)|assumption|omega))|(refine(AQ ?_ _ _).trans ?_;focus (first|(simp(disch:=first|assumption|omega|with_reducible rfl|(simp only[go_sem]<;>omega)|fail) only[↓reduceIte,↓AA,Nat.reduceAdd,go_sem,Bool.not_true,Bool.not_false,no1,w1,en1]<;>omega)|assumption|omega))|fail)
   all_goals simp(disch:=first|assumption|omega|(with_reducible rfl)|(simp only[go_sem];done)|(simp only[go_sem];omega)|fail) only[↓reduceIte,↓AA,Nat.reduceAdd,go_sem]
   all_goals rfl
  |some l=>
   rw[hlv]at cc
   have ih':=ih (i+1) .own (rs++[(Ad s e).1]) (ks++[l]) (BJ (Ad s e).2.1 (Ad s e).2.2).2.1 (BJ (Ad s e).2.1 (Ad s e).2.2).2.2 (by omega) (by simp;omega) (by simp;omega) (Or.inl rfl) (by omega)
   have bs:LX 58 true (ck [JS 9 (V.lst 9 .non (l.map V.str))] [V.lst 9 .non (l.map V.str)])=some (.lst 58 .own [sS l]):=by
    have c:AY [V.lst 9 .non (l.map V.str)]=true:=rfl
    show LX _ _ (some _)=_
    rw[AOb c];rfl
   have nl:nlB true [sS l]=[sS l]:=rfl
   have ap2:∀h:List V,G6 58 (JS 9) true h (.lst 58 f (ks.map sS)) (.lst 58 .own [sS l])=some (.lst 58 .own ((ks++[l]).map sS)):=fun h=>by
    have c:AY [sS l]=true:=(V.PFL _ (VB [l])).clean
    have t:[sS l].all (JS 9)=true:=rfl
    rw[List.map_append]
    rcases hf with rfl|rfl
    ·rw[Eg c t (by simp;omega),nl];rfl
    ·rw[Wx c t (by simp;omega),nl];rfl
   rw[AGK hlv,←ih']
   clear ih ih' hlv ll hl
   generalize (BJ (Ad s e).2.1 (Ad s e).2.2).2=lv at*
   generalize BG lv.1 lv.2=x3 at*
   generalize BG (Ad s e).2.1 (Ad s e).2.2=x2 at*
   generalize (Ad s e).1=t at*
   generalize BG s e=x at*
   simp only[hA]at*
   generalize CQ 5=r at*
   generalize cLv=c at*
   rcases hf with rfl|rfl
   all_goals (repeat' with_reducible first|refine(Aj _ _).trans ?_|refine(Ak _ _).trans ?_|refine(AA _ _).trans ?_|((first|(refine' (AB ?_ _).trans ?_;rotate_left)|refine(if_pos ?_).trans ?_|refine(AX ?_ _ _).trans ?_);focus (first|rfl|(simp(disch:=first|assumption|omega|with_reducible rfl|(simp only[go_sem]<;>omega)|fail) only[↓reduceIte,↓AA,Nat.reduceAdd,go_sem,Bool.not_true,Bool.not_false,ls,l9,df,sb11,sb9,tk2,EN,EO]<;>first|rfl|omega)|assumption|omega))|(refine(AQ ?_ _ _).trans ?_;focus (first|(simp(disch:=first|assumption|omega|with_reducible rfl|(simp only[go_sem]<;>omega)|fail) only[↓reduceIte,↓AA,Nat.reduceAdd,go_sem,Bool.not_true,Bool.not_false,ls,l9,df,sb11,sb9,tk2,EN,EO]<;>omega)|assumption|omega))|fail)
   all_goals refine(hh _ _).trans ?_
   all_goals (repeat' with_reducible first|refine(Aj _ _).trans ?_|refine(Ak _ _).trans ?_|refine(AA _ _).trans ?_|((first|(refine' (AB ?_ _).trans ?_;rotate_left)|refine(if_pos ?_).trans ?_|refine(AX ?_ _ _).trans ?_);focus (first|rfl|(simp(disch:=first|assumption|omega|with_reducible rfl|(simp only[go_sem]<;>omega)|fail) only[↓reduceIte,↓AA,Nat.reduceAdd,go_sem,Bool.not_true,Bool.not_false,ap]<;>first|rfl|omega)|assumption|omega))|(refine(AQ ?_ _ _).trans ?_;focus (first|(simp(disch:=first|assumption|omega|with_reducible rfl|(simp only[go_sem]<;>omega)|fail) only[↓reduceIte,↓AA,Nat.reduceAdd,go_sem,Bool.not_true,Bool.not_false,ap]<;>omega)|assumption|omega))|fail)
   all_goals refine(cc _ _).trans ?_
   all_goals simp only[vLv]
   all_goals refine(if_pos (no2 _)).trans ?_
   all_goals rw[w2]
   all_goals refine(AB (en2 _) _).trans ?_
   all_goals (repeat' with_reducible first|refine(Aj _ _).trans ?_|refine(Ak _ _).trans ?_|refine(AA _ _).trans ?_|((first|(refine' (AB ?_ _).trans ?_;rotate_left)|refine(if_pos ?_).trans ?_|refine(AX ?_ _ _).trans ?_);focus (first|rfl|(simp(disch:=first|assumption|omega|with_reducible rfl|(simp only[go_sem]<;>omega)|fail) only[↓reduceIte,↓AA,Nat.reduceAdd,go_sem,Bool.not_true,Bool.not_false,bs,ap2,ad,tk3,EN,EO]<;>first|rfl|omega)|assumption|omega))|(refine(AQ ?_ _ _).trans ?_;focus (first|(simp(disch:=first|assumption|omega|with_reducible rfl|(simp only[go_sem]<;>omega)|fail) only[↓reduceIte,↓AA,Nat.reduceAdd,go_sem,Bool.not_true,Bool.not_false,bs,ap2,ad,tk3,EN,EO]<;>omega)|assumption|omega))|fail)
   all_goals rfl
end
end
section
open Go AM
theorem AGM:∀(cs:List UInt8) (k v:Nat),(D5 k v cs).2.2≠0→(D5 k v cs).1=0
 |[],k,v,_=>by simp[D5]
 |c::cs,k,v,h=>by
  simp only[D5]at h⊢
  split
  ·rfl
  ·rename_i h1
   rw[if_neg h1]at h
   split
   ·rename_i h2
    rw[if_pos h2]at h
    exact absurd rfl h
   ·rename_i h2
    rw[if_neg h2]at h
    exact AGM cs _ _ h
theorem ABh {s:List UInt8} {e:Nat} (h:(AU s e).2.2≠0):(AU s e).1=0:=by
 by_cases he:e=0
 ·subst he
  simp only[AU,ne_eq,not_true_eq_false,if_false]at h⊢
  exact AGM _ _ _ h
 ·simp[AU,he]
def ACk (j:Job) (b:Bk) (n:Nat):Bool:=decide (0≤b.step)&&(decide ((n:Int)=b.step)&&decide (b.step<j.steps))
def Ko (j:Job) (b:Bk) (s:List UInt8):Bk×Bool×List UInt8×Nat:=
 if ACk j b (AU s 0).1=true then J3 b.roots.length (b.step+1) b.gone [] [] (AU s 0).2.1 (AU s 0).2.2 else(zB,false,(AU s 0).2)
section
variable {a0 a1 a2 a3 a4 a6:V}
theorem ACl {j:Job} {b:Bk} (hw:BZ 11 [a0,a1,a2,a3,a4,a6,vJ j,vB b,H8]=true) (hr:b.roots.length≤1000) (hg:b.gone.length≤1000000) (hg0:0<b.gone.length) (h64:b.step<9223372036854775807) {s:List UInt8} (hs:s.length<1000000000):
 Cl 56 [vJ j,vB b,CQ 5] [a0,a1,a2,a3,a4,BG s 0,a6]=some (.tup [vB (Ko j b s).1,.bool (Ko j b s).2.1],[a0,a1,a2,a3,a4,BG (Ko j b s).2.2.1 (Ko j b s).2.2.2,a6]):=by
 have nm:Cl 55 [CQ 5] [a0,a1,a2,a3,a4,BG s 0,a6,vJ j,vB b,CQ 5,H8]=some (.int .u64 ((AU s 0).1:Int),[a0,a1,a2,a3,a4,BG (AU s 0).2.1 (AU s 0).2.2,a6,vJ j,vB b,CQ 5,H8]):=He (id:=5) rfl (by omega)
 have nl:=EY s 0
 have lt:=IW s 0
 have cl:=XU hg hg0
 have w5:∀n:Nat,5<n→(AM.tyP (CQ 5)&&V.under n (CQ 5))=true:=fun n h=>by rw[ACQ h];rfl
 have u1:∀n,V.under n (vJ j)=true:=fun n=>rfl
 have pb:(vB b).pl=true:=by simp only[V.pl,Gj,FK,EZ,VB,Fb];rfl
 have wb:=(V.PF _ pb).weak
 have ub:=fun n=>(V.PF _ pb).under n
 have lp:=AGL hw hr (st:=b.step+1) (gone:=b.gone) b.roots.length 0 .nil [] [] (AU s 0).2.1 (AU s 0).2.2 (by omega) rfl rfl (Or.inr rfl) (by omega)
 rw[Ko]
 by_cases hm:ACk j b (AU s 0).1=true
 ·have hm':=hm
  simp only[ACk,Bool.and_eq_true,decide_eq_true_eq]at hm'
  obtain⟨m0,m1,m2⟩:=hm'
  have b1:AO .lss (.int .i64 b.step) (.int .i64 0)=some (.bool false):=by rw[b_lss,decide_eq_false (by omega)]
  have b2:OW .u64 (.int .i64 b.step)=some (.int .u64 ((AU s 0).1:Int)):=by rw[←m1,cvI_u64 (by omega) (by omega)]
  have b3:AO .neq (.int .u64 ((AU s 0).1:Int)) (.int .u64 ((AU s 0).1:Int))=some (.bool false):=by rw[b_neq];simp
  have b4:AO .geq (.int .i64 b.step) (.int .i64 j.steps)=some (.bool false):=by rw[b_geq,decide_eq_false (by omega)]
  have b5:AO .add (.int .i64 b.step) (.int .i64 1)=some (.int .i64 (b.step+1)):=by rw[DR,wrap_i64 (by omega) (by omega)]
  have cp:List.all [V.ref 9 [] 101] V.capOk=true:=rfl
  rw[if_pos hm,←lp,AD9]
  clear lp hm m0 m1 m2 nl lt hs hr hw
  generalize ((AU s 0).1:Int)=n at*
  generalize BG (AU s 0).2.1 (AU s 0).2.2=x2 at*
  generalize BG s 0=x at*
  simp(disch:=first|assumption|omega|(with_reducible rfl)|(simp only[go_sem];done)|(simp only[go_sem];omega)|fail) only[↓reduceIte,↓AA,Nat.reduceAdd,go_sem,nm,cl,b1,b2,b3,b4,b5,cp,w5,ub]
  rfl
 ·rw[if_neg hm,AD9]
  clear lp hs hr hw cl
  by_cases c1:b.step<0
  ·have b1:AO .lss (.int .i64 b.step) (.int .i64 0)=some (.bool true):=by rw[b_lss,decide_eq_true c1]
   clear c1 hm lt
   generalize ((AU s 0).1:Int)=n at*
   generalize BG (AU s 0).2.1 (AU s 0).2.2=x2 at*
   generalize BG s 0=x at*
   simp(disch:=first|assumption|omega|(with_reducible rfl)|(simp only[go_sem];done)|(simp only[go_sem];omega)|fail) only[↓reduceIte,↓AA,Nat.reduceAdd,go_sem,nm,b1,w5,ub]
   rfl
  ·have b1:AO .lss (.int .i64 b.step) (.int .i64 0)=some (.bool false):=by rw[b_lss,decide_eq_false c1]
   have b2:OW .u64 (.int .i64 b.step)=some (.int .u64 b.step):=cvI_u64 (by omega) (by omega)
   by_cases c2:((AU s 0).1:Int)=b.step
   ·have b3:AO .neq (.int .u64 ((AU s 0).1:Int)) (.int .u64 b.step)=some (.bool false):=by rw[b_neq,c2];simp
    have b4:AO .geq (.int .i64 b.step) (.int .i64 j.steps)=some (.bool true):=by
     rw[b_geq]
     by_cases c3:b.step<j.steps
     ·exact absurd (by simp only[ACk,Bool.and_eq_true,decide_eq_true_eq];exact⟨by omega,c2,c3⟩) hm
     ·rw[decide_eq_true (by omega)]
    clear c1 hm lt c2
    generalize ((AU s 0).1:Int)=n at*
    generalize BG (AU s 0).2.1 (AU s 0).2.2=x2 at*
    generalize BG s 0=x at*
    simp(disch:=first|assumption|omega|(with_reducible rfl)|(simp only[go_sem];done)|(simp only[go_sem];omega)|fail) only[↓reduceIte,↓AA,Nat.reduceAdd,go_sem,nm,b1,b2,b3,b4,w5,ub]
    rfl
   ·have b3:AO .neq (.int .u64 ((AU s 0).1:Int)) (.int .u64 b.step)=some (.bool true):=by rw[b_neq];simp[c2]
    clear c1 hm lt c2
    generalize ((AU s 0).1:Int)=n at*
    generalize BG (AU s 0).2.1 (AU s 0).2.2=x2 at*
    generalize BG s 0=x at*
    simp(disch:=first|assumption|omega|(with_reducible rfl)|(simp only[go_sem];done)|(simp only[go_sem];omega)|fail) only[↓reduceIte,↓AA,Nat.reduceAdd,go_sem,nm,b1,b2,b3,w5,ub]
    rfl
end
def apB (g:Grf) (j:Job) (b:Bk) (rec:List UInt8):Option Bk:=
 if(AU rec 0).1=65 then(if(Ko j b (AU rec 0).2.1).2.1=true then some (Ko j b (AU rec 0).2.1).1 else none)
 else if(AU rec 0).1=69 then evB g j b (AU rec 0).2.1 else none
set_option maxHeartbeats 4000000 in
theorem AGN {g:Grf} (hl:g.es.length<1000000) {j:Job} {b:Bk} (hg:EG g j (b.gone.length:Int)=true) (hr:b.roots.length=b.gone.length) (h64:b.step<9223372036854775807) {rec:List UInt8} (hrec:rec.length<1000000000):
 Cl 23 [vG .sh g,vJ j,vB b,.str rec] []=some (.tup [vB (opB (apB g j b rec)),.int .i64 (if(apB g j b rec).isSome=true then 0 else 171)],[]):=by
 have hlen:1≤b.gone.length∧b.gone.length≤64:=by
  simp only[EG,Bool.and_eq_true,decide_eq_true_eq]at hg;omega
 have nl:=EY rec 0
 by_cases h69:(AU rec 0).1=69
 ·have he:(AU rec 0).2.2=0:=by
   by_cases h:(AU rec 0).2.2=0
   ·exact h
   ·have:=ABh h;omega
  have h:=TA hl hg hr (rec:=rec) (s:=(AU rec 0).2.1) (by omega) (Prod.ext h69 (Prod.ext rfl he)) (by omega)
  have e:apB g j b rec=evB g j b (AU rec 0).2.1:=by rw[apB,if_neg (by rw[h69];decide),if_pos h69]
  rw[h,e]
 have hN:Cl 10 [vG .sh g,vJ j,.int .i64 (b.gone.length:Int)] []=some (.tup [vB (Bz g j b.gone.length),.int .i64 0],[]):=by
  have h:=Ls hl j (b.gone.length:Int)
  rw[if_pos hg]at h
  rw[h];rfl
 have n54:=FV [vG .sh g,vJ j,vB b,H8,vB (Bz g j b.gone.length)] rec
 have n55:Cl 55 [CQ 5] [vG .sh g,vJ j,vB b,H8,vB (Bz g j b.gone.length),BG rec 0,H8]=some (.int .u64 ((AU rec 0).1:Int),[vG .sh g,vJ j,vB b,H8,vB (Bz g j b.gone.length),BG (AU rec 0).2.1 (AU rec 0).2.2,H8]):=He (id:=5) rfl (by omega)
 by_cases h65:(AU rec 0).1=65
 ·have he:(AU rec 0).2.2=0:=by
   by_cases h:(AU rec 0).2.2=0
   ·exact h
   ·have:=ABh h;omega
  have pb:∀b:Bk,(vB b).pl=true:=fun b=>by simp only[V.pl,Gj,FK,EZ,VB,Fb];rfl
  have pg:(vG .sh g).pl=true:=by simp only[go_sem]
  have hw:BZ 11 [vG .sh g,vJ j,vB b,H8,vB (Bz g j b.gone.length),H8,vJ j,vB b,H8]=true:=by
   simp only[BZ,(V.PF _ (pb _)).away,(V.PF _ pg).away];rfl
  have n56:=ACl hw (by omega) (by omega) (by omega) h64 (s:=(AU rec 0).2.1) (by omega)
  rw[h65,he]at n55
  rw[apB,if_pos h65,La]
  clear hw
  generalize BG (Ko j b (AU rec 0).2.1).2.2.1 (Ko j b (AU rec 0).2.1).2.2.2=i2 at*
  generalize Bz g j b.gone.length=nb at*
  simp only[List.length_cons,List.length_nil,Nat.zero_add,Nat.reduceAdd]at n54
  cases ha:(Ko j b (AU rec 0).2.1).2.1 with
  |false=>
   rw[ha]at n56
   simp only[opB,Option.getD_none,Option.isSome_none,zB,List.map_nil,Bool.false_eq_true,if_false]at n56⊢
   generalize (Ko j b (AU rec 0).2.1).1=c at*
   generalize BG (AU rec 0).2.1 0=i1 at*
   simp(disch:=first|assumption|omega|(with_reducible rfl)|(simp only[go_sem];done)|(simp only[go_sem];omega)|fail) only[↓reduceIte,↓AA,Nat.reduceAdd,go_sem,n54,n55,n56,hN,hr]
   rfl
  |true=>
   rw[ha]at n56
   simp only[opB,Option.getD_some,Option.isSome_some,if_true]at n56⊢
   generalize (Ko j b (AU rec 0).2.1).1=c at*
   generalize BG (AU rec 0).2.1 0=i1 at*
   simp(disch:=first|assumption|omega|(with_reducible rfl)|(simp only[go_sem];done)|(simp only[go_sem];omega)|fail) only[↓reduceIte,↓AA,Nat.reduceAdd,go_sem,n54,n55,n56,hN,hr]
 ·rw[apB,if_neg h65,if_neg h69,La]
  have q1:AO .eql (.int .u64 ((AU rec 0).1:Int)) (.int .u64 65)=some (.bool false):=by rw[b_eql,decide_eq_false (by omega)]
  have q2:AO .eql (.int .u64 ((AU rec 0).1:Int)) (.int .u64 69)=some (.bool false):=by rw[b_eql,decide_eq_false (by omega)]
  generalize BG (AU rec 0).2.1 (AU rec 0).2.2=i1 at*
  generalize ((AU rec 0).1:Int)=n at*
  generalize Bz g j b.gone.length=nb at*
  simp only[List.length_cons,List.length_nil,Nat.zero_add,Nat.reduceAdd]at n54
  simp only[opB,Option.getD_none,Option.isSome_none,zB,List.map_nil,Bool.false_eq_true,if_false]
  simp(disch:=first|assumption|omega|(with_reducible rfl)|(simp only[go_sem];done)|(simp only[go_sem];omega)|fail) only[↓reduceIte,↓AA,Nat.reduceAdd,go_sem,n54,n55,hN,hr,q1,q2]
  rfl
end
section
open Go AM
theorem Xe:∀(f n k v:Nat) (rest:List UInt8),n<128^f→0<f→(0<k→0<n)→n*128^k<18446744073709551616→k≤9→
 D5 k v (Ht f n++rest)=(v+n*128^k,k+(Ht f n).length,0):=by
 intro f
 induction f with
 |zero=>intro n k v rest _ h;omega
 |succ f ih=>
  intro n k v rest hn _ h0 hb h9
  have k9:k=9→n<2:=by
   rintro rfl
   rcases Nat.lt_or_ge n 2 with h|h
   ·exact h
   ·have:2*128^9≤n*128^9:=Nat.mul_le_mul_right _ h
    have e:(128:Nat)^9=9223372036854775808:=by decide
    omega
  rw[Ht]
  by_cases h:n<128
  ·rw[if_pos h]
   have e:(UInt8.ofNat n).toNat=n:=by rw[UInt8.toNat_ofNat'];exact Nat.mod_eq_of_lt (by omega)
   simp only[List.cons_append,List.nil_append,D5,e]
   rw[if_neg (by
    rintro (⟨a,b⟩|⟨a,b⟩)
    ·have:=k9 a;omega
    ·have:=h0 a;omega),if_pos h,Nat.mod_eq_of_lt h]
   rfl
  ·rw[if_neg h]
   have e:(UInt8.ofNat (n%128+128)).toNat=n%128+128:=by rw[UInt8.toNat_ofNat'];exact Nat.mod_eq_of_lt (by omega)
   simp only[List.cons_append,D5,e]
   have hk:k<9:=by
    rcases Nat.lt_or_ge k 9 with h'|h'
    ·exact h'
    ·have:=k9 (by omega);omega
   have hf:0<f:=by
    rcases Nat.eq_zero_or_pos f with h'|h'
    ·subst h';simp at hn;omega
    ·exact h'
   rw[if_neg (by omega),if_neg (by omega)]
   have e1:(n%128+128)%128=n%128:=by omega
   have e2:n%128*128^k+n/128*128^(k+1)=n*128^k:=by
    rw[Nat.pow_succ,Nat.mul_comm (128^k) 128,←Nat.mul_assoc,←Nat.add_mul]
    congr 1;omega
   rw[ih (n/128) (k+1) _ rest (by rw[Nat.pow_succ]at hn;omega) hf (fun _=>by omega) (by omega) (by omega),e1]
   refine Prod.ext ?_ (Prod.ext ?_ rfl)
   ·simp only[];omega
   ·simp only[List.length_cons];omega
theorem Dw {n:Nat} (hn:n<18446744073709551616) (rest:List UInt8):AU (Aq n++rest) 0=(n,rest,0):=by
 have h:=Xe 10 n 0 0 rest (Nat.lt_of_lt_of_le hn (by decide)) (by omega) (by omega) (by omega) (by omega)
 simp only[Nat.zero_add,Nat.pow_zero,Nat.mul_one]at h
 simp only[AU,ne_eq,not_true_eq_false,if_false,Aq,h,if_true]
 refine Prod.ext rfl (Prod.ext ?_ rfl)
 simp
theorem J4 {s:List UInt8} {m:Nat} (hm:s.length≤m) (hs:s.length<18446744073709551616) (rest:List UInt8):textIn m (DX s++rest) 0=(s,rest,0):=by
 have h:=Xe 10 s.length 0 0 (s++rest) (Nat.lt_of_lt_of_le hs (by decide)) (by omega) (by omega) (by omega) (by omega)
 simp only[Nat.zero_add,Nat.pow_zero,Nat.mul_one]at h
 have e:DX s++rest=Ht 10 s.length++(s++rest):=by rw[DX,Aq,List.append_assoc]
 simp only[textIn,ne_eq,not_true_eq_false,if_false,GL,e,h]
 rw[if_neg (by omega),if_neg (by simp only[List.length_append];omega)]
 simp only[if_true]
 refine Prod.ext ?_ (Prod.ext ?_ rfl)
 ·simp
 ·simp only[]
  rw[←List.append_assoc,List.drop_append_of_le_length (by simp),List.drop_of_length_le (by simp)];rfl
theorem AMd {n:Int} (h:I64 n):zz (Qq n)=n∧Qq n<18446744073709551616:=by
 simp only[I64]at h
 simp only[zz,Qq]
 split<;>refine⟨?_,by omega⟩<;>split<;>omega
theorem ACm {m:Msg} (hm:Y7 m) (h:mR m=true):IV (rowB m)=(m,0):=by
 simp only[mR,inR,Bool.and_eq_true,decide_eq_true_eq]at h
 obtain⟨⟨⟨⟨h1,h2⟩,h3,h4⟩,h5⟩,h6⟩:=h
 have e:rowB m=Aq m.fr.toNat++(Aq m.to.toNat++(Aq (Qq m.val)++[])):=by rw[rowB,if_neg (by omega),List.append_nil,List.append_assoc]
 obtain⟨z1,z2⟩:=AMd hm.2.2
 simp only[IV,e,Dw (show m.fr.toNat<18446744073709551616 by omega),Dw (show m.to.toNat<18446744073709551616 by omega),Dw z2,EM,D8,z1]
 refine Prod.ext ?_ (by simp)
 cases m
 simp only[Msg.mk.injEq,and_true]
 simp only[]at h1 h2 h3 h4
 omega
theorem ND (l:List Msg):∀n i,Eh l n i=true↔∀j,i≤j→j<i+n→mR (l.getD j default)=true∧(0<j→Gt (l.getD (j-1) default) (l.getD j default)=false)
 |0,i=>by simp only[Eh,true_iff];intro j h1 h2;omega
 |n+1,i=>by
  simp only[Eh,Bool.and_eq_true,Bool.not_eq_true',Bool.and_eq_false_iff,decide_eq_false_iff_not,ND l n (i+1)]
  constructor
  ·rintro ⟨⟨h1,h2⟩,h3⟩ j hj hj2
   by_cases e:j=i
   ·subst e
    exact⟨h2,fun h0=>h1.resolve_left (by omega)⟩
   ·exact h3 j (by omega) (by omega)
  ·intro h
   refine⟨⟨?_,(h i (by omega) (by omega)).1⟩,fun j h1 h2=>h j (by omega) (by omega)⟩
   by_cases h0:0<i
   ·exact Or.inr ((h i (by omega) (by omega)).2 h0)
   ·exact Or.inl h0
def TL (a b:Msg):Prop:=a.to<b.to∨(a.to=b.to∧a.fr<b.fr)
theorem AMe {a b:Msg} (h:YL b a=false) (hd:Gt a b=false):TL a b:=by
 rw[KU]at h
 simp only[Gt,Bool.and_eq_false_iff,decide_eq_false_iff_not]at hd
 simp only[TL];omega
def ABi (l:List Msg):Prop:=l.Pairwise fun a b=>Gt a b=false
theorem ZA {l m:List Msg} (h:l.Perm m):ABi l↔ABi m:=by
 refine h.pairwise_iff ?_
 intro a b hab
 simp only[Gt,Bool.and_eq_false_iff,decide_eq_false_iff_not]at hab⊢
 omega
theorem ACn {l:List Msg} (hs:l.Pairwise fun x y=>(!YL y x)=true):ABi l↔∀j,0<j→j<l.length→Gt (l.getD (j-1) default) (l.getD j default)=false:=by
 constructor
 ·intro h j h0 hj
  have:=List.pairwise_iff_getElem.1 h (j-1) j (by omega) hj (by omega)
  rw[getD_lt hj,getD_lt (by omega)];exact this
 ·intro h
  have step:∀i (hi:i+1<l.length),TL l[i] l[i+1]:=by
   intro i hi
   have d:=h (i+1) (by omega) hi
   rw[getD_lt hi,getD_lt (by omega)]at d
   have s:=List.pairwise_iff_getElem.1 hs i (i+1) (by omega) hi (by omega)
   simp only[Bool.not_eq_true']at s
   exact AMe s d
  have far:∀n i (hi:i+1+n<l.length),TL l[i] l[i+1+n]:=by
   intro n
   induction n with
   |zero=>intro i hi;exact step i hi
   |succ n ih=>
    intro i hi
    have a:=ih i (by omega)
    have b:=step (i+1+n) (by omega)
    simp only[TL]at a b⊢
    have e:i+1+(n+1)=i+1+n+1:=by omega
    simp only[e]
    omega
  refine List.pairwise_iff_getElem.2 fun i j hi hj hij=> ?_
  have:=far (j-i-1) i (by omega)
  have e:i+1+(j-i-1)=j:=by omega
  simp only[e,TL]at this
  simp only[Gt,Bool.and_eq_false_iff,decide_eq_false_iff_not];omega
theorem Xf (l:List Msg):ET l=true↔l.length≤512∧(∀m∈l,mR m=true)∧ABi l:=by
 have hp:(Bl l).Perm l:=List.mergeSort_perm l _
 simp only[ET,Bool.and_eq_true,decide_eq_true_eq,ND,←ZA hp,ACn (Hg l),CZ]
 refine and_congr_right fun h5=> ?_
 constructor
 ·intro h
  refine⟨fun m hm=> ?_,fun j h0 hj=>(h j (by omega) (by omega)).2 h0⟩
  obtain⟨j,hj,rfl⟩:=List.mem_iff_getElem.1 (hp.mem_iff.2 hm)
  rw[CZ]at hj
  have:=(h j (by omega) (by omega)).1
  rwa [getD_lt (by rw[CZ];exact hj)]at this
 ·rintro ⟨h1,h2⟩ j _ hj
  refine⟨?_,fun h0=>h2 j h0 (by omega)⟩
  rw[getD_lt (by rw[CZ];omega)]
  exact h1 _ (hp.mem_iff.1 (List.getElem_mem _))
theorem AGO (s0:List UInt8) (l:List Msg) (hl:∀m∈l,Y7 m∧mR m=true):∀(acc:List Msg),VF s0 l.length acc ((l.map fun m=>DX (rowB m)).flatten)=if ET (acc++l)=true∧D7 (acc++l)=s0 then(acc++l,0)else([],110):=by
 induction l with
 |nil=>
  intro acc
  simp only[List.length_nil,VF,List.map_nil,List.flatten_nil,EM,List.append_nil]
  simp
 |cons m l ih=>
  intro acc
  have h:=hl m (by simp)
  have e:=J4 (s:=rowB m) (m:=40) (by have:=KW m;omega) (by have:=KW m;omega) ((l.map fun m=>DX (rowB m)).flatten)
  simp only[List.length_cons,VF,List.map_cons,List.flatten_cons,e,ACm h.1 h.2,ne_eq,not_true_eq_false,if_false]
  rw[ih (fun m hm=>hl m (by simp[hm]))]
  simp only[List.append_assoc,List.singleton_append]
theorem AGP {l:List Msg} (hl:∀m∈l,Y7 m) (hc:ET l=true):L6 (D7 l)=(Bl l,0):=by
 obtain⟨c1,c2,c3⟩:=(Xf l).1 hc
 have e:(FC l).map DX=(Bl l).map fun m=>DX (rowB m):=by rw[FC,List.map_map];rfl
 have hn:=Dw (n:=l.length) (by omega) (((FC l).map DX).flatten)
 have hp:(Bl l).Perm l:=List.mergeSort_perm l _
 rw[L6,D7,hn]
 simp only[ne_eq,not_true_eq_false,if_false]
 rw[if_neg (by omega),e]
 have:=AGO (Aq l.length++((Bl l).map fun m=>DX (rowB m)).flatten) (Bl l) (fun m hm=>⟨hl m (hp.mem_iff.1 hm),c2 m (hp.mem_iff.1 hm)⟩) []
 rw[CZ]at this
 rw[this,List.nil_append,if_pos]
 refine⟨by rw[TG hp];exact hc,?_⟩
 rw[ACd hp,D7,e]
end
section
open Go AM
theorem Xg (x:Int):Cl 58 [.int .i64 x] []=some (.bool (!(decide (x≤1125899906842624)&&decide (-1125899906842624≤x))),[]):=by
 rw[AK3]
 by_cases h:1125899906842624<x
 ·simp(disch:=first|assumption|omega|(with_reducible rfl)|(simp only[go_sem];done)|(simp only[go_sem];omega)|fail) only[↓reduceIte,↓AA,Nat.reduceAdd,go_sem]
  rw[decide_eq_false (by omega)];rfl
 ·by_cases h2:x< -1125899906842624
  ·simp(disch:=first|assumption|omega|(with_reducible rfl)|(simp only[go_sem];done)|(simp only[go_sem];omega)|fail) only[↓reduceIte,↓AA,Nat.reduceAdd,go_sem]
   rw[decide_eq_true h2,decide_eq_false (show ¬ -1125899906842624≤x by omega),Bool.and_false];rfl
  ·simp(disch:=first|assumption|omega|(with_reducible rfl)|(simp only[go_sem];done)|(simp only[go_sem];omega)|fail) only[↓reduceIte,↓AA,Nat.reduceAdd,go_sem]
   rw[decide_eq_false h2,decide_eq_true (show -1125899906842624≤x by omega),decide_eq_true (show x≤1125899906842624 by omega)];rfl
def Gv (l:List Msg) (m:Msg):Nat→Nat→Bool
 |0,_=>false
 |n+1,k=>Gt (l.getD k default) m||Gv l m n (k+1)
theorem AGQ {l:List Msg} {i:Nat} (m:Msg) (hi:i<l.length) (hn:l.length≤1000000):∀(n k:Nat),k+n=i→
 UO (.lst 108 .sh (l.map Ac)) (.int .i64 (i:Int)) (.ref 0 [] 108) (.int .i64 (k:Int)) 0 [Ac m]=
  if Gv l m n k=true then some (.bool false,[])else Oc (.lst 108 .sh (l.map Ac)) (.int .i64 ((i+1:Nat):Int)) []:=by
 intro n
 induction n with
 |zero=>
  intro k hk
  have h:¬k<i:=by omega
  rw[RY,Gv,if_neg (by simp)]
  simp(disch:=first|assumption|omega|(with_reducible rfl)|(simp only[go_sem];done)|(simp only[go_sem];omega)|fail) only[↓reduceIte,↓AA,Nat.reduceAdd,go_sem]
 |succ n ih=>
  intro k hk
  have h:k<l.length:=by omega
  have hi':=ih (k+1) (by omega)
  have hx:(l.map Ac)[k]?=some (Ac (l.getD k default)):=AGE h
  rw[RY,Gv]
  generalize l.getD k default=x at hx
  simp only[Ac]at hi'
  by_cases h1:x.fr=m.fr
  ·by_cases h2:x.to=m.to
   ·rw[if_pos (by simp[Gt,h1,h2])]
    simp(disch:=first|assumption|omega|(with_reducible rfl)|(simp only[go_sem];done)|(simp only[go_sem];omega)|fail) only[↓reduceIte,↓AA,Nat.reduceAdd,go_sem,hx,Ac,h1,h2]
   ·rw[show(Gt x m||Gv l m n (k+1))=Gv l m n (k+1)by simp[Gt,h2],←hi']
    simp(disch:=first|assumption|omega|(with_reducible rfl)|(simp only[go_sem];done)|(simp only[go_sem];omega)|fail) only[↓reduceIte,↓AA,Nat.reduceAdd,go_sem,hx,Ac,h1]
  ·rw[show(Gt x m||Gv l m n (k+1))=Gv l m n (k+1)by simp[Gt,h1],←hi']
   simp(disch:=first|assumption|omega|(with_reducible rfl)|(simp only[go_sem];done)|(simp only[go_sem];omega)|fail) only[↓reduceIte,↓AA,Nat.reduceAdd,go_sem,hx,Ac]
def Ib (l:List Msg):Nat→Nat→Bool
 |0,_=>true
 |n+1,i=>mR (l.getD i default)&& !Gv l (l.getD i default) i 0&&Ib l n (i+1)
theorem AGR {l:List Msg} (hn:l.length≤1000000):∀(n i:Nat),i+n=l.length→
 Oc (.lst 108 .sh (l.map Ac)) (.int .i64 (i:Int)) []=some (.bool (Ib l n i&&decide (l.length≤512)),[]):=by
 intro n
 induction n with
 |zero=>
  intro i hi
  have h:¬i<l.length:=by omega
  rw[RZ,Ib]
  simp(disch:=first|assumption|omega|(with_reducible rfl)|(simp only[go_sem];done)|(simp only[go_sem];omega)|fail) only[↓reduceIte,↓AA,Nat.reduceAdd,go_sem]
  rw[show decide ((l.length:Int)≤512)=decide (l.length≤512)from decide_eq_decide.2 (by omega)]
 |succ n ih=>
  intro i hi
  have h:i<l.length:=by omega
  have h2:=AGQ (l.getD i default) h hn i 0 (by omega)
  have hi':=ih (i+1) (by omega)
  rw[hi']at h2
  generalize hm:l.getD i default=m at h2
  have hx:(l.map Ac)[i]?=some (Ac m):=by rw[AGE h,hm]
  rw[RZ,Ib,hm]
  by_cases g1:m.fr<0
  ·simp(disch:=first|assumption|omega|(with_reducible rfl)|(simp only[go_sem];done)|(simp only[go_sem];omega)|fail) only[↓reduceIte,↓AA,Nat.reduceAdd,go_sem,hx,Ac]
   simp[mR,inR,g1];omega
  by_cases g2:63<m.fr
  ·simp(disch:=first|assumption|omega|(with_reducible rfl)|(simp only[go_sem];done)|(simp only[go_sem];omega)|fail) only[↓reduceIte,↓AA,Nat.reduceAdd,go_sem,hx,Ac]
   simp[mR,inR];omega
  by_cases g3:m.to<0
  ·simp(disch:=first|assumption|omega|(with_reducible rfl)|(simp only[go_sem];done)|(simp only[go_sem];omega)|fail) only[↓reduceIte,↓AA,Nat.reduceAdd,go_sem,hx,Ac]
   simp[mR,inR];omega
  by_cases g4:63<m.to
  ·simp(disch:=first|assumption|omega|(with_reducible rfl)|(simp only[go_sem];done)|(simp only[go_sem];omega)|fail) only[↓reduceIte,↓AA,Nat.reduceAdd,go_sem,hx,Ac]
   simp[mR,inR];omega
  have e:mR m=(decide (m.val≤1125899906842624)&&decide (-1125899906842624≤m.val)):=by
   simp[mR,inR,show 0≤m.fr by omega,show m.fr<64 by omega,show 0≤m.to by omega,show m.to<64 by omega]
  by_cases g5:mR m=true
  ·have g5':=g5
   rw[e]at g5'
   simp(disch:=first|assumption|omega|(with_reducible rfl)|(simp only[go_sem];done)|(simp only[go_sem];omega)|fail) only[↓reduceIte,↓AA,Nat.reduceAdd,go_sem,hx,Ac,Xg,g5',Bool.not_true]
   simp only[Ac]at h2
   rw[g5]
   refine h2.trans ?_
   cases Gv l m i 0<;>simp
  ·have g5':(decide (m.val≤1125899906842624)&&decide (-1125899906842624≤m.val))=false:=by rw[←e];simpa using g5
   have g6:mR m=false:=by simpa using g5
   simp(disch:=first|assumption|omega|(with_reducible rfl)|(simp only[go_sem];done)|(simp only[go_sem];omega)|fail) only[↓reduceIte,↓AA,Nat.reduceAdd,go_sem,hx,Ac,Xg,g5',Bool.not_false]
   rw[g6];rfl
theorem TM (l:List Msg) (m:Msg):∀n k,Gv l m n k=false↔∀j,k≤j→j<k+n→Gt (l.getD j default) m=false
 |0,k=>by simp only[Gv,true_iff];intro j h1 h2;omega
 |n+1,k=>by
  simp only[Gv,Bool.or_eq_false_iff,TM l m n (k+1)]
  constructor
  ·rintro ⟨a,b⟩ j h1 h2
   by_cases e:j=k
   ·subst e;exact a
   ·exact b j (by omega) (by omega)
  ·intro h
   exact⟨h k (by omega) (by omega),fun j h1 h2=>h j (by omega) (by omega)⟩
theorem QG (l:List Msg):∀n i,i+n=l.length→(Ib l n i=true↔∀j,i≤j→j<l.length→mR (l.getD j default)=true∧∀k,k<j→Gt (l.getD k default) (l.getD j default)=false)
 |0,i,hi=>by simp only[Ib,true_iff];intro j h1 h2;omega
 |n+1,i,hi=>by
  simp only[Ib,Bool.and_eq_true,Bool.not_eq_true',TM,QG l n (i+1) (by omega)]
  constructor
  ·rintro ⟨⟨a,b⟩,c⟩ j h1 h2
   by_cases e:j=i
   ·subst e;exact⟨a,fun k hk=>b k (by omega) (by omega)⟩
   ·exact c j (by omega) h2
  ·intro h
   obtain⟨a,b⟩:=h i (by omega) (by omega)
   exact⟨⟨a,fun k _ hk=>b k (by omega)⟩,fun j h1 h2=>h j (by omega) h2⟩
theorem ACo (l:List Msg):(Ib l l.length 0&&decide (l.length≤512))=ET l:=by
 rw[Bool.eq_iff_iff,Xf,Bool.and_eq_true,decide_eq_true_eq,QG l l.length 0 (by omega)]
 constructor
 ·rintro ⟨a,b⟩
  refine⟨b,fun m hm=> ?_,List.pairwise_iff_getElem.2 fun i j hi hj hij=> ?_⟩
  ·obtain⟨j,hj,rfl⟩:=List.mem_iff_getElem.1 hm
   have:=(a j (by omega) hj).1
   rwa [getD_lt hj]at this
  ·have:=(a j (by omega) hj).2 i hij
   rwa [getD_lt hj,getD_lt hi]at this
 ·rintro ⟨b,c,d⟩
  refine⟨fun j _ hj=>⟨?_,fun k hk=> ?_⟩,b⟩
  ·rw[getD_lt hj];exact c _ (List.getElem_mem _)
  ·rw[getD_lt hj,getD_lt (by omega)]
   exact List.pairwise_iff_getElem.1 d k j (by omega) hj hk
theorem AGS {l:List Msg} (hn:l.length≤1000000):Cl 26 [.lst 108 .sh (l.map Ac)] []=some (.bool (ET l),[]):=by
 rw[AKk,←ACo]
 exact AGR hn l.length 0 (by omega)
end
section
open Go AM
theorem ZB {x:List UInt8} (hx:x.length=32) (rest:List UInt8):Ad (x++rest) 0=(x,rest,0):=by
 have:¬(x++rest).length<32:=by simp[hx]
 simp only[Ad,ne_eq,not_true_eq_false,if_false,this]
 rw[List.take_left' hx,List.drop_left' hx]
theorem NE:∀(l acc:List (List UInt8)) (rest:List UInt8),(∀s∈l,s.length≤40)→textsIn l.length acc (TI l++rest) 0=(acc++l,rest,0)
 |[],acc,rest,_=>by simp[textsIn,TI]
 |s::l,acc,rest,h=>by
  have hs:=h s List.mem_cons_self
  have e:TI (s::l)++rest=DX s++(TI l++rest):=by simp[TI,List.append_assoc]
  rw[List.length_cons,textsIn,if_pos rfl,e,J4 hs (by omega)]
  show textsIn l.length (acc++[s]) (TI l++rest) 0=_
  rw[NE l (acc++[s]) rest (fun x hx=>h x (List.mem_cons_of_mem _ hx)),List.append_assoc];rfl
theorem VJ {l:List (List UInt8)} (h:∀s∈l,s.length≤40) (hn:l.length≤64) (rest:List UInt8):BJ (Aq l.length++(TI l++rest)) 0=(some l,rest,0):=by
 rw[BJ,Dw (by omega),if_neg (by simp only;omega)]
 show(some (textsIn l.length [] (TI l++rest) 0).1,(textsIn l.length [] (TI l++rest) 0).2)=_
 rw[NE l [] rest h];rfl
def AMf (v:Vd):Bool:=v.known.all fun s=>decide (s.length≤40)
def VK (l:List Vd):Bool:=l.all AMf
theorem ACp:EM [] 0=0:=rfl
theorem Xh {p:List UInt8} (hp:p.length≤65536) {st:Int} {gone:List Bool}:∀(l:List Vd) (rs:List (List UInt8)) (ks:List (List (List UInt8))),(∀v∈l,v.root.length=32∧v.known.length≤64∧AMf v=true)→
 J3 l.length st gone rs ks (l.flatMap Vf++DX p) 0=(⟨st,gone,rs++l.map (·.root),ks++l.map (·.known),(L6 p).1⟩,decide ((L6 p).2=0),[],0)
 |[],rs,ks,_=>by
  have e:textIn 65536 (DX p) 0=(p,[],0):=by
   have:=J4 (m:=65536) hp (by omega) []
   rwa [List.append_nil]at this
  simp[J3,e,ACp]
 |v::l,rs,ks,h=>by
  obtain⟨h1,h2,h3⟩:=h v List.mem_cons_self
  have e:(v::l).flatMap Vf++DX p=v.root++(Aq v.known.length++(TI v.known++(l.flatMap Vf++DX p))):=by
   simp only[List.flatMap_cons,Vf,List.append_assoc]
  have h3':∀s∈v.known,s.length≤40:=fun s hs=>by
   have:=List.all_eq_true.1 h3 s hs
   exact of_decide_eq_true this
  have hh:=ZB h1 (Aq v.known.length++(TI v.known++(l.flatMap Vf++DX p)))
  have hl:=VJ h3' h2 (l.flatMap Vf++DX p)
  rw[e,List.length_cons,AGK (l:=v.known) (by rw[hh];simp only;rw[hl]),hh]
  simp only
  rw[hl]
  simp only
  rw[Xh hp l _ _ (fun x hx=>h x (List.mem_cons_of_mem _ hx))]
  simp only[List.map_cons,List.append_assoc,List.cons_append,List.nil_append]
def VL (b:Bk) (l:List Vd):Bk:=⟨b.step+1,b.gone,l.map (·.root),l.map (·.known),Bl (Az l)⟩
theorem AI5 {g:Grf} {j:Job} {b:Bk} {l:List Vd} (hv:∀v∈l,KZ v) (h8:l.length≤8) (hf:VK l=true) (ho:okA b l=true) (hc:ET (Az l)=true) (h64:b.step<j.steps) (hj:j.steps≤64):
 apB g j b (Qs b l++DX (D7 (Az l)))=some (VL b l):=by
 simp only[okA,Bool.and_eq_true,decide_eq_true_eq]at ho
 obtain⟨o1,_,o3⟩:=ho
 obtain⟨n,hn⟩:=Int.eq_ofNat_of_zero_le o3
 have hsl:=Gu hv
 have pl:=QE (Az l)
 have e:Qs b l++DX (D7 (Az l))=Aq 65++(Aq n++(l.flatMap Vf++DX (D7 (Az l)))):=by
  simp only[Qs,hn,Int.toNat_natCast,List.append_assoc]
 have n1:=Dw (n:=65) (by omega) (Aq n++(l.flatMap Vf++DX (D7 (Az l))))
 have n2:=Dw (n:=n) (by omega) (l.flatMap Vf++DX (D7 (Az l)))
 have hm:ACk j b n=true:=by simp only[ACk,Bool.and_eq_true,decide_eq_true_eq];omega
 have al:=Xh (p:=D7 (Az l)) (by omega) (st:=b.step+1) (gone:=b.gone) l [] [] (fun v h=>⟨(hv v h).1,by have:=(hv v h).2.1;omega,List.all_eq_true.1 hf v h⟩)
 rw[AGP (Xc hv) hc]at al
 have ac:Ko j b (Aq n++(l.flatMap Vf++DX (D7 (Az l))))=(VL b l,true,[],0):=by
  rw[Ko,n2]
  simp only
  rw[if_pos hm,←o1,al]
  simp[VL]
 rw[e,apB,n1]
 simp only
 rw[if_pos trivial,ac]
 rfl
theorem AMg {g:Grf} {j:Job} {b:Bk} {w:Nat} (hw:b.gone[w]?=some false) (h64:w<128):AU (Aq 69++Aq w) 0=(69,Aq w,0)∧evB g j b (Aq w)=some {Bz g j b.gone.length with gone:=b.gone.set w true}:=by
 refine⟨Dw (by omega) _,?_⟩
 have:=Dw (n:=w) (by omega) []
 rw[List.append_nil]at this
 rw[evB,this]
 exact if_pos ⟨rfl,hw⟩
theorem AI6 {l:List Vd} {i:Nat} (hi:i<l.length) (hl:l.length≤8) (hv:KZ l[i]) {m0:Nat} (hm:m0=0):∀(n k:Nat),k+n=l[i].known.length→
 UL (.lst 60 .sh (l.map Be)) (.int .i64 (i:Int)) (.int .i64 (k:Int)) m0=
  if(l[i].known.drop k).all (fun s=>decide (s.length≤40))=true then Ob (.lst 60 .sh (l.map Be)) (.int .i64 ((i+1:Nat):Int))else some (.bool false,[]):=by
 subst hm
 obtain⟨_,h12,h300,_,_⟩:=hv
 have ix:Di 60 (.lst 60 .sh (l.map Be)) (.int .i64 (i:Int))=some (.rop 60 (Be l[i])):=Hw (f:= .sh) (Xa hi)
 have ln:=VI l[i].known
 have w:(sS l[i].known).weak=sS l[i].known:=rfl
 intro n
 induction n with
 |zero=>
  intro k hk
  have ls:AO .lss (.int .i64 (k:Int)) (.int .i64 (l[i].known.length:Int))=some (.bool false):=by rw[b_lss,decide_eq_false (by omega)]
  have ad:AO .add (.int .i64 (i:Int)) (.int .i64 1)=some (.int .i64 ((i+1:Nat):Int)):=by rw[DR,wrap_i64 (by omega) (by omega)];rfl
  rw[List.drop_eq_nil_of_le (by omega),List.all_nil,if_pos rfl,LZ]
  simp only[Be]at ix
  clear h300
  generalize (i+1:Nat)=j at*
  generalize l[i]=v at*
  generalize l.map Be=L at*
  generalize (v.known.length:Int)=z at*
  generalize sS v.known=S at*
  (repeat' with_reducible first|refine(Aj _ _).trans ?_|refine(Ak _ _).trans ?_|refine(AA _ _).trans ?_|((first|(refine' (AB ?_ _).trans ?_;rotate_left)|refine(if_pos ?_).trans ?_|refine(AX ?_ _ _).trans ?_);focus (first|rfl|(simp(disch:=first|assumption|omega|with_reducible rfl|(simp only[go_sem]<;>omega)|fail) only[↓reduceIte,↓AA,Nat.reduceAdd,go_sem,Bool.not_true,Bool.not_false,ix,w,ln,ls,ad]<;>first|rfl|omega)|assumption|omega))|(refine(AQ ?_ _ _).trans ?_;focus (first|(simp(disch:=first|assumption|omega|with_reducible rfl|(simp only[go_sem]<;>omega)|fail) only[↓reduceIte,↓AA,Nat.reduceAdd,go_sem,Bool.not_true,Bool.not_false,ix,w,ln,ls,ad]<;>omega)|assumption|omega))|fail)
  rfl
 |succ n ih=>
  intro k hk
  have h:k<l[i].known.length:=by omega
  have hx:=h300 _ (List.getElem_mem h)
  have ls:AO .lss (.int .i64 (k:Int)) (.int .i64 (l[i].known.length:Int))=some (.bool true):=by rw[b_lss,decide_eq_true (by omega)]
  have ix2:Di 9 (sS l[i].known) (.int .i64 (k:Int))=some (.rop 9 (.str l[i].known[k])):=Hw (f:= .sh) (VG h)
  have ad:AO .add (.int .i64 (k:Int)) (.int .i64 1)=some (.int .i64 ((k+1:Nat):Int)):=by rw[DR,wrap_i64 (by omega) (by omega)];rfl
  have lnx:lnS (.str l[i].known[k])=some (.int .i64 (l[i].known[k].length:Int)):=rfl
  have ih':=ih (k+1) (by omega)
  rw[List.drop_eq_getElem_cons h,List.all_cons]
  by_cases h40:l[i].known[k].length≤40
  ·have gt:AO .gtr (.int .i64 (l[i].known[k].length:Int)) (.int .i64 40)=some (.bool false):=by rw[b_gtr,decide_eq_false (by omega)]
   rw[decide_eq_true h40,Bool.true_and,←ih',LZ]
   simp only[Be]at ix
   clear ih ih' h300
   generalize l[i].known[k]=x at*
   generalize (x.length:Int)=xl at*
   generalize (k+1:Nat)=k2 at*
   generalize l[i]=v at*
   generalize l.map Be=L at*
   generalize (v.known.length:Int)=z at*
   generalize sS v.known=S at*
   (repeat' with_reducible first|refine(Aj _ _).trans ?_|refine(Ak _ _).trans ?_|refine(AA _ _).trans ?_|((first|(refine' (AB ?_ _).trans ?_;rotate_left)|refine(if_pos ?_).trans ?_|refine(AX ?_ _ _).trans ?_);focus (first|rfl|(simp(disch:=first|assumption|omega|with_reducible rfl|(simp only[go_sem]<;>omega)|fail) only[↓reduceIte,↓AA,Nat.reduceAdd,go_sem,Bool.not_true,Bool.not_false,ix,w,ln,ls,ix2,lnx,gt,ad]<;>first|rfl|omega)|assumption|omega))|(refine(AQ ?_ _ _).trans ?_;focus (first|(simp(disch:=first|assumption|omega|with_reducible rfl|(simp only[go_sem]<;>omega)|fail) only[↓reduceIte,↓AA,Nat.reduceAdd,go_sem,Bool.not_true,Bool.not_false,ix,w,ln,ls,ix2,lnx,gt,ad]<;>omega)|assumption|omega))|fail)
   rfl
  ·have gt:AO .gtr (.int .i64 (l[i].known[k].length:Int)) (.int .i64 40)=some (.bool true):=by rw[b_gtr,decide_eq_true (by omega)]
   rw[decide_eq_false h40,Bool.false_and,if_neg (by simp),LZ]
   simp only[Be]at ix
   clear ih ih' h300
   generalize l[i].known[k]=x at*
   generalize (x.length:Int)=xl at*
   generalize l[i]=v at*
   generalize l.map Be=L at*
   generalize (v.known.length:Int)=z at*
   generalize sS v.known=S at*
   (repeat' with_reducible first|refine(Aj _ _).trans ?_|refine(Ak _ _).trans ?_|refine(AA _ _).trans ?_|((first|(refine' (AB ?_ _).trans ?_;rotate_left)|refine(if_pos ?_).trans ?_|refine(AX ?_ _ _).trans ?_);focus (first|rfl|(simp(disch:=first|assumption|omega|with_reducible rfl|(simp only[go_sem]<;>omega)|fail) only[↓reduceIte,↓AA,Nat.reduceAdd,go_sem,Bool.not_true,Bool.not_false,ix,w,ln,ls,ix2,lnx,gt]<;>first|rfl|omega)|assumption|omega))|(refine(AQ ?_ _ _).trans ?_;focus (first|(simp(disch:=first|assumption|omega|with_reducible rfl|(simp only[go_sem]<;>omega)|fail) only[↓reduceIte,↓AA,Nat.reduceAdd,go_sem,Bool.not_true,Bool.not_false,ix,w,ln,ls,ix2,lnx,gt]<;>omega)|assumption|omega))|fail)
   rfl
theorem AI7 {l:List Vd} (hl:l.length≤8) (hv:∀v∈l,KZ v):∀(n i:Nat),i+n=l.length→
 Ob (.lst 60 .sh (l.map Be)) (.int .i64 (i:Int))=some (.bool (VK (l.drop i)),[]):=by
 have ln:=Bc 60 .sh Be l
 intro n
 induction n with
 |zero=>
  intro i hi
  have ls:AO .lss (.int .i64 (i:Int)) (.int .i64 (l.length:Int))=some (.bool false):=by rw[b_lss,decide_eq_false (by omega)]
  rw[List.drop_eq_nil_of_le (by omega),RU]
  clear hv
  generalize (l.length:Int)=z at*
  generalize l.map Be=L at*
  (repeat' with_reducible first|refine(Aj _ _).trans ?_|refine(Ak _ _).trans ?_|refine(AA _ _).trans ?_|((first|(refine' (AB ?_ _).trans ?_;rotate_left)|refine(if_pos ?_).trans ?_|refine(AX ?_ _ _).trans ?_);focus (first|rfl|(simp(disch:=first|assumption|omega|with_reducible rfl|(simp only[go_sem]<;>omega)|fail) only[↓reduceIte,↓AA,Nat.reduceAdd,go_sem,Bool.not_true,Bool.not_false,ln,ls]<;>first|rfl|omega)|assumption|omega))|(refine(AQ ?_ _ _).trans ?_;focus (first|(simp(disch:=first|assumption|omega|with_reducible rfl|(simp only[go_sem]<;>omega)|fail) only[↓reduceIte,↓AA,Nat.reduceAdd,go_sem,Bool.not_true,Bool.not_false,ln,ls]<;>omega)|assumption|omega))|fail)
  rfl
 |succ n ih=>
  intro i hi
  have h:i<l.length:=by omega
  have ls:AO .lss (.int .i64 (i:Int)) (.int .i64 (l.length:Int))=some (.bool true):=by rw[b_lss,decide_eq_true (by omega)]
  have l2:=AI6 h hl (hv _ (List.getElem_mem h)) (m0:=0) rfl l[i].known.length 0 (by omega)
  rw[ih (i+1) (by omega),List.drop_zero]at l2
  have e:(if l[i].known.all (fun s=>decide (s.length≤40))=true then some (V.bool (VK (l.drop (i+1))),([]:List V))else some (.bool false,[]))=some (.bool (VK (l.drop i)),[]):=by
   rw[List.drop_eq_getElem_cons h]
   simp only[VK,List.all_cons,AMf]
   cases l[i].known.all (fun s=>decide (s.length≤40))<;>rfl
  rw[e]at l2
  rw[←l2,RU]
  clear hv l2 e ih
  generalize (l.length:Int)=z at*
  generalize l.map Be=L at*
  (repeat' with_reducible first|refine(Aj _ _).trans ?_|refine(Ak _ _).trans ?_|refine(AA _ _).trans ?_|((first|(refine' (AB ?_ _).trans ?_;rotate_left)|refine(if_pos ?_).trans ?_|refine(AX ?_ _ _).trans ?_);focus (first|rfl|(simp(disch:=first|assumption|omega|with_reducible rfl|(simp only[go_sem]<;>omega)|fail) only[↓reduceIte,↓AA,Nat.reduceAdd,go_sem,Bool.not_true,Bool.not_false,ln,ls]<;>first|rfl|omega)|assumption|omega))|(refine(AQ ?_ _ _).trans ?_;focus (first|(simp(disch:=first|assumption|omega|with_reducible rfl|(simp only[go_sem]<;>omega)|fail) only[↓reduceIte,↓AA,Nat.reduceAdd,go_sem,Bool.not_true,Bool.not_false,ln,ls]<;>omega)|assumption|omega))|fail)
  rfl
theorem AI8 {l:List Vd} (hl:l.length≤8) (hv:∀v∈l,KZ v):Cl 22 [.lst 60 .sh (l.map Be)] []=some (.bool (VK l),[]):=by
 have:=AI7 hl hv l.length 0 (by omega)
 rw[List.drop_zero]at this
 rw[←this,AKh]
 rfl
end
section
open Go AM
end
section
open Go AM
abbrev QH:V:= .agg Lr [.int .i64 0,.lst 4 .nil [],.lst 55 .nil [],.lst 58 .nil [],.lst 108 .nil []]
theorem APF (h0 h1 h2 h3 h4 h5 h6 h7 h8 h9 h10 x0 x2 x3 x4:V) (k:List V→Rv):
 Sz 80 (.lst 4 .sh ([false,false].map V.bool)) (.ref 11 [] 33) (.int .u64 1) 33 1 28 4 true [h0,h1,h2,h3,h4,h5,h6,h7,h8,h9,h10,.agg Lr [x0,.lst 4 .sh ([false,false].map V.bool),x2,x3,x4]] k=
  k [h0,h1,h2,h3,h4,h5,h6,h7,h8,h9,h10,.agg Lr [x0,.lst 4 .own ([false,true].map V.bool),x2,x3,x4]]:=ARS ..
theorem ARW (r0 r1 p0 p1:List UInt8) (k0 k1 q0 q1:List (List UInt8)) (hN:Cl 10 [vG .sh g0,vJ j0,.int .i64 2] []=some (.tup [vB (D6 false p0 p1 q0 q1),.int .i64 0],[])):
 Cl 57 [vG .sh g0,vJ j0,vB (D6 false r0 r1 k0 k1),CQ 5] [vG .sh g0,vJ j0,vB (D6 false r0 r1 k0 k1),YK,vB (D6 false p0 p1 q0 q1),BG [1] 0,YK]=
  some (.tup [vB (D6 true p0 p1 q0 q1),.bool true],[vG .sh g0,vJ j0,vB (D6 false r0 r1 k0 k1),YK,vB (D6 false p0 p1 q0 q1),BG [] 0,YK]):=by
 have n55:Cl 55 [CQ 5] [vG .sh g0,vJ j0,vB (D6 false r0 r1 k0 k1),YK,vB (D6 false p0 p1 q0 q1),BG [1] 0,YK,vG .sh g0,vJ j0,vB (D6 false r0 r1 k0 k1),QH]=some (.int .u64 1,[vG .sh g0,vJ j0,vB (D6 false r0 r1 k0 k1),YK,vB (D6 false p0 p1 q0 q1),BG [] 0,YK,vG .sh g0,vJ j0,vB (D6 false r0 r1 k0 k1),QH]):=DN.2 ⟨60,by kernel_rfl⟩
 have n86:Cl 86 [CQ 5] [vG .sh g0,vJ j0,vB (D6 false r0 r1 k0 k1),YK,vB (D6 false p0 p1 q0 q1),BG [] 0,YK,vG .sh g0,vJ j0,vB (D6 false r0 r1 k0 k1),QH]=some (.int .i64 0,[vG .sh g0,vJ j0,vB (D6 false r0 r1 k0 k1),YK,vB (D6 false p0 p1 q0 q1),BG [] 0,YK,vG .sh g0,vJ j0,vB (D6 false r0 r1 k0 k1),QH]):=DN.2 ⟨60,by kernel_rfl⟩
 rw[P8]
 simp only[D6,List.map_cons,List.map_nil,zB]at n55 n86 hN⊢
 have hN':Cl 10 [vG .sh g0,vJ j0,.int .i64 ((2:Nat):Int)] []=_:=hN
 have hx:([false,false].map V.bool)[1]?=some (.bool false):=rfl
 simp(disch:=first|assumption|omega|(with_reducible rfl)|(simp only[go_sem];done)|(simp only[go_sem];omega)|fail) only[↓reduceIte,↓AA,Nat.reduceAdd,go_sem,n55,n86,hN',hx]
 refine(APF _ _ _ _ _ _ _ _ _ _ _ _ _ _ _ _).trans ?_
 rfl
end
section
open Go AM
theorem AKG (r0 r1 p0 p1:List UInt8) (k0 k1 q0 q1:List (List UInt8)) (hN:Cl 10 [vG .sh g0,vJ j0,.int .i64 2] []=some (.tup [vB (D6 false p0 p1 q0 q1),.int .i64 0],[])):
 Cl 23 [vG .sh g0,vJ j0,vB (D6 false r0 r1 k0 k1),.str [69,1]] []=some (.tup [vB (D6 true p0 p1 q0 q1),.int .i64 0],[]):=by
 have n54:=FV [vG .sh g0,vJ j0,vB (D6 false r0 r1 k0 k1),QH,vB (D6 false p0 p1 q0 q1)] [69,1]
 have n55:Cl 55 [CQ 5] [vG .sh g0,vJ j0,vB (D6 false r0 r1 k0 k1),QH,vB (D6 false p0 p1 q0 q1),BG [69,1] 0,QH]=some (.int .u64 69,[vG .sh g0,vJ j0,vB (D6 false r0 r1 k0 k1),QH,vB (D6 false p0 p1 q0 q1),BG [1] 0,QH]):=DN.2 ⟨60,by kernel_rfl⟩
 have n57:Cl 57 [vG .sh g0,vJ j0,vB (D6 false r0 r1 k0 k1),CQ 5] [vG .sh g0,vJ j0,vB (D6 false r0 r1 k0 k1),QH,vB (D6 false p0 p1 q0 q1),BG [1] 0,QH]=_:=ARW r0 r1 p0 p1 k0 k1 q0 q1 hN
 rw[La]
 simp only[D6,zB]at n54 n55 n57 hN⊢
 have hN':Cl 10 [vG .sh g0,vJ j0,.int .i64 ((2:Nat):Int)] []=_:=hN
 simp(disch:=first|assumption|omega|(with_reducible rfl)|(simp only[go_sem];done)|(simp only[go_sem];omega)|fail) only[↓reduceIte,↓AA,Nat.reduceAdd,go_sem,n54,n55,n57,hN']
end
section
open Go AM
theorem AKH (g1:Bool) (r0 r1 p0 p1:List UInt8) (k0 k1 q0 q1:List (List UInt8)) (hN:Cl 10 [vG .sh g0,vJ j0,.int .i64 2] []=some (.tup [vB (D6 false p0 p1 q0 q1),.int .i64 0],[])):
 Cl 23 [vG .sh g0,vJ j0,vB (D6 g1 r0 r1 k0 k1),.str P9] []=some (.tup [vB (bk1 g1),.int .i64 0],[]):=by
 have n54:=FV [vG .sh g0,vJ j0,vB (D6 g1 r0 r1 k0 k1),QH,vB (D6 false p0 p1 q0 q1)] P9
 have n55:Cl 55 [CQ 5] [vG .sh g0,vJ j0,vB (D6 g1 r0 r1 k0 k1),QH,vB (D6 false p0 p1 q0 q1),BG P9 0,QH]=some (.int .u64 65,[vG .sh g0,vJ j0,vB (D6 g1 r0 r1 k0 k1),QH,vB (D6 false p0 p1 q0 q1),BG P9.tail 0,QH]):=DN.2 ⟨60,by kernel_rfl⟩
 have n56:Cl 56 [vJ j0,vB (D6 g1 r0 r1 k0 k1),CQ 5] [vG .sh g0,vJ j0,vB (D6 g1 r0 r1 k0 k1),QH,vB (D6 false p0 p1 q0 q1),BG P9.tail 0,QH]=_:=ARQ g1 r0 r1 p0 p1 k0 k1 q0 q1
 rw[La]
 generalize P9=acc at*
 generalize bk1 g1=b1 at*
 simp only[D6,zB]at n54 n55 n56 hN⊢
 have hN':Cl 10 [vG .sh g0,vJ j0,.int .i64 ((2:Nat):Int)] []=_:=hN
 simp(disch:=first|assumption|omega|(with_reducible rfl)|(simp only[go_sem];done)|(simp only[go_sem];omega)|fail) only[↓reduceIte,↓AA,Nat.reduceAdd,go_sem,n54,n55,n56,hN']
theorem APG (p0 p1:List UInt8) (q0 q1:List (List UInt8)) (hN:Cl 10 [vG .sh g0,vJ j0,.int .i64 2] []=some (.tup [vB (D6 false p0 p1 q0 q1),.int .i64 0],[])):
 Cl 23 [vG .sh g0,vJ j0,vB (bk1 true),.str [120]] []=some (.tup [vB zB,.int .i64 171],[]):=by
 have n54:=FV [vG .sh g0,vJ j0,vB (bk1 true),QH,vB (D6 false p0 p1 q0 q1)] [120]
 have n55:Cl 55 [CQ 5] [vG .sh g0,vJ j0,vB (bk1 true),QH,vB (D6 false p0 p1 q0 q1),BG [120] 0,QH]=some (.int .u64 120,[vG .sh g0,vJ j0,vB (bk1 true),QH,vB (D6 false p0 p1 q0 q1),BG [] 0,QH]):=DN.2 ⟨60,by kernel_rfl⟩
 rw[La]
 generalize List.replicate 32 (0:UInt8)=Jb at*
 simp only[D6,bk1,zB]at n54 n55 hN⊢
 have hN':Cl 10 [vG .sh g0,vJ j0,.int .i64 ((2:Nat):Int)] []=_:=hN
 simp(disch:=first|assumption|omega|(with_reducible rfl)|(simp only[go_sem];done)|(simp only[go_sem];omega)|fail) only[↓reduceIte,↓AA,Nat.reduceAdd,go_sem,n54,n55,hN']
 rfl
end
section
open Go AM
theorem APH (p0 p1:List UInt8) (q0 q1:List (List UInt8)) (hN:Cl 10 [vG .sh g0,vJ j0,.int .i64 2] []=some (.tup [vB (D6 false p0 p1 q0 q1),.int .i64 0],[])):
 Cl 28 [vG .sh g0,vJ j0,.int .i64 2,.lst 9 .sh [.str [69,1],.str P9,.str [120]]] []=some (.tup [vB (bk1 true),.int .i64 2,.int .i64 0],[]):=by
 have a1:=AKG p0 p1 p0 p1 q0 q1 q0 q1 hN
 have a2:=AKH true p0 p1 p0 p1 q0 q1 q0 q1 hN
 have a3:=APG p0 p1 q0 q1 hN
 rw[AKm]
 generalize P9=acc at*
 generalize bk1 true=b3 at*
 generalize D6 true p0 p1 q0 q1=b2 at*
 generalize D6 false p0 p1 q0 q1=b1 at*
 have ix1:∀a b c:V,Di 9 (.lst 9 .sh [a,b,c]) (.int .i64 (0+1))=some (.rop 9 b):=fun _ _ _=>rfl
 have ix2:∀a b c:V,Di 9 (.lst 9 .sh [a,b,c]) (.int .i64 (0+1+1))=some (.rop 9 c):=fun _ _ _=>rfl
 simp(disch:=first|assumption|omega|(with_reducible rfl)|(simp only[go_sem];done)|(simp only[go_sem];omega)|fail) only[↓reduceIte,↓AA,Nat.reduceAdd,go_sem,hN]
 rw[Ld]
 simp(disch:=first|assumption|omega|(with_reducible rfl)|(simp only[go_sem];done)|(simp only[go_sem];omega)|fail) only[↓reduceIte,↓AA,Nat.reduceAdd,go_sem,a1]
 rw[Ld]
 simp(disch:=first|assumption|omega|(with_reducible rfl)|(simp only[go_sem];done)|(simp only[go_sem];omega)|fail) only[↓reduceIte,↓AA,Nat.reduceAdd,go_sem,a2,ix1]
 rw[Ld]
 simp(disch:=first|assumption|omega|(with_reducible rfl)|(simp only[go_sem];done)|(simp only[go_sem];omega)|fail) only[↓reduceIte,↓AA,Nat.reduceAdd,go_sem,a3,ix2]
 rfl
end
section
open Go AM
set_option maxHeartbeats 4000000 in
theorem AI9:Cl 9 [] []=some (.bool true,[]):=by
 obtain⟨p0,p1,q0,q1,hnb⟩:=nb0
 have hN:Cl 10 [vG .sh g0,vJ j0,.int .i64 2] []=some (.tup [vB (D6 false p0 p1 q0 q1),.int .i64 0],[]):=by
  have h:=Ls (g:=g0) (by simp[g0]) j0 2
  rw[if_pos AO1]at h
  rw[h,←hnb];rfl
 have e1:Cl 20 [vB (D6 false p0 p1 q0 q1),.int .i64 1] []=_:=ARO p0 p1 q0 q1
 have e2:Cl 17 [vB (D6 false p0 p1 q0 q1),.lst 60 .sh [zVd,zVd]] []=_:=ARP p0 p1 q0 q1
 have a1:=AKG p0 p1 p0 p1 q0 q1 q0 q1 hN
 have a2:=AKH false p0 p1 p0 p1 q0 q1 q0 q1 hN
 have rc:=APH p0 p1 q0 q1 hN
 have mk:mkL 60 zVd (.int .i64 2) (.int .i64 2)=some (.lst 60 .own [zVd,zVd]):=rfl
 rw[ANc]
 rw[show mkL 60 _ (.int .i64 2) (.int .i64 2)=some (.lst 60 .own [zVd,zVd])from mk]
 have ry:∀h,V.reify h (.lst 60 .own [zVd,zVd])= .lst 60 .sh [zVd,zVd]:=fun _=>rfl
 generalize P9=acc at*
 generalize zVd=z at*
 simp only[vG,vJ,g0,j0,List.map_nil]at hN a1 a2 rc
 have d1:((D6 false p0 p1 q0 q1).gone.length:Int)=2:=rfl
 have d2:(D6 true p0 p1 q0 q1).step=0:=rfl
 have d3:(bk1 false).step=1:=rfl
 have d4:(bk1 true).step=1:=rfl
 have x1:Di 4 (.lst 4 .sh ((D6 true p0 p1 q0 q1).gone.map V.bool)) (.int .i64 1)=some (.rop 4 (.bool true)):=rfl
 have x2:Di 4 (.lst 4 .sh ((D6 true p0 p1 q0 q1).gone.map V.bool)) (.int .i64 0)=some (.rop 4 (.bool false)):=rfl
 have x3:Di 4 (.lst 4 .sh ((bk1 true).gone.map V.bool)) (.int .i64 1)=some (.rop 4 (.bool true)):=rfl
 (repeat' with_reducible first|refine(Aj _ _).trans ?_|refine(Ak _ _).trans ?_|refine(AA _ _).trans ?_|((first|(refine' (AB ?_ _).trans ?_;rotate_left)|refine(if_pos ?_).trans ?_|refine(AX ?_ _ _).trans ?_);focus (first|rfl|(simp(disch:=first|assumption|omega|with_reducible rfl|(simp only[go_sem]<;>omega)|fail) only[↓reduceIte,↓AA,Nat.reduceAdd,go_sem,Bool.not_true,Bool.not_false,hN,e1,e2,a1,a2,rc,mk,ry,x1,x2,x3]<;>first|rfl|omega)|assumption|omega))|(refine(AQ ?_ _ _).trans ?_;focus (first|(simp(disch:=first|assumption|omega|with_reducible rfl|(simp only[go_sem]<;>omega)|fail) only[↓reduceIte,↓AA,Nat.reduceAdd,go_sem,Bool.not_true,Bool.not_false,hN,e1,e2,a1,a2,rc,mk,ry,x1,x2,x3]<;>omega)|assumption|omega))|fail)
 rfl
end
section
open Go AM
def AMh (b:Bk):Prop:=I64 b.step∧(∀r∈b.roots,r.length=32)∧b.known.length<9223372036854775808∧(∀k∈b.known,k.length<9223372036854775808)∧∀m∈b.sent,Y7 m
def AMi (v:Vd):Prop:=v.root.length=32∧v.known.length<9223372036854775808∧∀m∈v.sent,Y7 m
theorem AMj {b:Bk} (h:AMh b) (hf:ACf b=true):BkOk b:=by
 simp only[ACf,Bool.and_eq_true,List.all_eq_true,decide_eq_true_eq]at hf
 obtain⟨h1,h2,h3,h4,h5⟩:=hf
 exact⟨by omega,by omega,by omega,fun k hk=>by have:=(h1 k hk).1;omega,h.2.1,by omega⟩
theorem AJA {l:List Vd} (h:∀v∈l,AMi v) (hf:AGH l=true):l.length≤8∧∀v∈l,KZ v:=by
 simp only[AGH,KX,Bool.and_eq_true,List.all_eq_true,decide_eq_true_eq]at hf
 exact⟨hf.2,fun v hv=>⟨(h v hv).1,(hf.1 v hv).1.2,(hf.1 v hv).1.1,(hf.1 v hv).2,(h v hv).2.2⟩⟩
theorem AKI (b:Bk):(vB b).pl=true:=by simp only[V.pl,Gj,FK,EZ,VB,Fb];rfl
end
section
open Go AM
theorem AGT {l:List Bool} {i:Nat} (h:i<l.length):Di 4 (.lst 4 .sh (l.map V.bool)) (.int .i64 (i:Int))=some (.rop 4 (.bool l[i])):=Hw (f:= .sh) (by simp[h])
theorem AGU {a b:List Bool} (hl:a.length=b.length) (hn:a.length≤1000000) {w:Int} (he:∀i:Nat,∀h:i<a.length,a[i]=(b[i]'(by omega)||decide ((i:Int)=w))):∀(n i:Nat),i+n=a.length→
 UM (.lst 4 .sh (a.map V.bool)) (.lst 4 .sh (b.map V.bool)) (.int .i64 w) (.int .i64 (i:Int))=some (.bool true,[]):=by
 have ln:=Bc 4 .sh V.bool a
 intro n
 induction n with
 |zero=>
  intro i hi
  have ls:AO .lss (.int .i64 (i:Int)) (.int .i64 (a.length:Int))=some (.bool false):=by rw[b_lss,decide_eq_false (by omega)]
  rw[RV]
  clear he
  generalize (a.length:Int)=z at*
  generalize a.map V.bool=A at*
  generalize b.map V.bool=B at*
  (repeat' with_reducible first|refine(Aj _ _).trans ?_|refine(Ak _ _).trans ?_|refine(AA _ _).trans ?_|((first|(refine' (AB ?_ _).trans ?_;rotate_left)|refine(if_pos ?_).trans ?_|refine(AX ?_ _ _).trans ?_);focus (first|rfl|(simp(disch:=first|assumption|omega|with_reducible rfl|(simp only[go_sem]<;>omega)|fail) only[↓reduceIte,↓AA,Nat.reduceAdd,go_sem,Bool.not_true,Bool.not_false,ln,ls]<;>first|rfl|omega)|assumption|omega))|(refine(AQ ?_ _ _).trans ?_;focus (first|(simp(disch:=first|assumption|omega|with_reducible rfl|(simp only[go_sem]<;>omega)|fail) only[↓reduceIte,↓AA,Nat.reduceAdd,go_sem,Bool.not_true,Bool.not_false,ln,ls]<;>omega)|assumption|omega))|fail)
  rfl
 |succ n ih=>
  intro i hi
  have h:i<a.length:=by omega
  have h':i<b.length:=by omega
  have ls:AO .lss (.int .i64 (i:Int)) (.int .i64 (a.length:Int))=some (.bool true):=by rw[b_lss,decide_eq_true (by omega)]
  have x1:=AGT h
  have x2:=AGT h'
  have eq:AO .eql (.int .i64 (i:Int)) (.int .i64 w)=some (.bool (decide ((i:Int)=w))):=b_eql ..
  have ad:AO .add (.int .i64 (i:Int)) (.int .i64 1)=some (.int .i64 ((i+1:Nat):Int)):=by rw[DR,wrap_i64 (by omega) (by omega)];rfl
  have hi':=he i h
  have t1:NU AM.tyB .neq (.bool true) (.bool true)=some (.bool false):=rfl
  have t2:NU AM.tyB .neq (.bool false) (.bool false)=some (.bool false):=rfl
  have t3:∀x:Bool,NU AM.tyB .neq (.bool x) (.bool x)=some (.bool false):=fun x=>by cases x<;>rfl
  rw[←ih (i+1) (by omega),RV]
  clear ih he
  generalize a[i]=p at*
  generalize b[i]=q at*
  generalize decide ((i:Int)=w)=e at*
  generalize (i+1:Nat)=i2 at*
  generalize (a.length:Int)=z at*
  generalize a.map V.bool=A at*
  generalize b.map V.bool=B at*
  subst hi'
  cases q with
  |true=>
   rw[Bool.true_or]at x1
   (repeat' with_reducible first|refine(Aj _ _).trans ?_|refine(Ak _ _).trans ?_|refine(AA _ _).trans ?_|((first|(refine' (AB ?_ _).trans ?_;rotate_left)|refine(if_pos ?_).trans ?_|refine(AX ?_ _ _).trans ?_);focus (first|rfl|(simp(disch:=first|assumption|omega|with_reducible rfl|(simp only[go_sem]<;>omega)|fail) only[↓reduceIte,↓AA,Nat.reduceAdd,go_sem,Bool.not_true,Bool.not_false,ln,ls,x1,x2,t3,ad]<;>first|rfl|omega)|assumption|omega))|(refine(AQ ?_ _ _).trans ?_;focus (first|(simp(disch:=first|assumption|omega|with_reducible rfl|(simp only[go_sem]<;>omega)|fail) only[↓reduceIte,↓AA,Nat.reduceAdd,go_sem,Bool.not_true,Bool.not_false,ln,ls,x1,x2,t3,ad]<;>omega)|assumption|omega))|fail)
   rfl
  |false=>
   rw[Bool.false_or]at x1
   (repeat' with_reducible first|refine(Aj _ _).trans ?_|refine(Ak _ _).trans ?_|refine(AA _ _).trans ?_|((first|(refine' (AB ?_ _).trans ?_;rotate_left)|refine(if_pos ?_).trans ?_|refine(AX ?_ _ _).trans ?_);focus (first|rfl|(simp(disch:=first|assumption|omega|with_reducible rfl|(simp only[go_sem]<;>omega)|fail) only[↓reduceIte,↓AA,Nat.reduceAdd,go_sem,Bool.not_true,Bool.not_false,ln,ls,x1,x2,eq,t3,ad]<;>first|rfl|omega)|assumption|omega))|(refine(AQ ?_ _ _).trans ?_;focus (first|(simp(disch:=first|assumption|omega|with_reducible rfl|(simp only[go_sem]<;>omega)|fail) only[↓reduceIte,↓AA,Nat.reduceAdd,go_sem,Bool.not_true,Bool.not_false,ln,ls,x1,x2,eq,t3,ad]<;>omega)|assumption|omega))|fail)
   rfl
theorem Xi {a b:List Bool} (hl:a.length=b.length) (hn:a.length≤1000000) {w:Int} (he:∀i:Nat,∀h:i<a.length,a[i]=(b[i]'(by omega)||decide ((i:Int)=w))):
 Cl 24 [.lst 4 .sh (a.map V.bool),.lst 4 .sh (b.map V.bool),.int .i64 w] []=some (.bool true,[]):=by
 have l0:=AGU hl hn he a.length 0 (by omega)
 have ln:=Bc 4 .sh V.bool a
 have ln2:=Bc 4 .sh V.bool b
 have ne:AO .neq (.int .i64 (a.length:Int)) (.int .i64 (b.length:Int))=some (.bool false):=by rw[b_neq,hl];simp
 rw[←l0,AKi]
 clear he l0
 generalize (a.length:Int)=z at*
 generalize (b.length:Int)=z2 at*
 generalize a.map V.bool=A at*
 generalize b.map V.bool=B at*
 (repeat' with_reducible first|refine(Aj _ _).trans ?_|refine(Ak _ _).trans ?_|refine(AA _ _).trans ?_|((first|(refine' (AB ?_ _).trans ?_;rotate_left)|refine(if_pos ?_).trans ?_|refine(AX ?_ _ _).trans ?_);focus (first|rfl|(simp(disch:=first|assumption|omega|with_reducible rfl|(simp only[go_sem]<;>omega)|fail) only[↓reduceIte,↓AA,Nat.reduceAdd,go_sem,Bool.not_true,Bool.not_false,ln,ln2,ne]<;>first|rfl|omega)|assumption|omega))|(refine(AQ ?_ _ _).trans ?_;focus (first|(simp(disch:=first|assumption|omega|with_reducible rfl|(simp only[go_sem]<;>omega)|fail) only[↓reduceIte,↓AA,Nat.reduceAdd,go_sem,Bool.not_true,Bool.not_false,ln,ln2,ne]<;>omega)|assumption|omega))|fail)
 rfl
theorem AJB {a:List Bool} (hn:a.length≤1000000):Cl 24 [.lst 4 .sh (a.map V.bool),.lst 4 .sh (a.map V.bool),.int .i64 (-1)] []=some (.bool true,[]):=
 Xi rfl hn fun i h=>by rw[decide_eq_false (by omega),Bool.or_false]
theorem AGV {a:List Bool} (hn:a.length≤1000000) {w:Nat}:Cl 24 [.lst 4 .sh ((a.set w true).map V.bool),.lst 4 .sh (a.map V.bool),.int .i64 (w:Int)] []=some (.bool true,[]):=
 Xi (by simp) (by simpa using hn) fun i h=>by
  rw[List.getElem_set]
  by_cases e:w=i
  ·subst e;simp
  ·rw[if_neg e,decide_eq_false (by omega),Bool.or_false]
structure EvF (g:Grf) (j:Job) (b:Bk) (w:Int) (c:Bk) (s:List UInt8):Prop where
 ap:Cl 23 [vG .sh g,vJ j,vB b,.str s] []=some (.tup [vB c,.int .i64 0],[])
 ev:Cl 20 [vB b,.int .i64 w] []=some (.tup [.str s,.int .i64 0],[])
 sg:Cl 24 [.lst 4 .sh (c.gone.map V.bool),.lst 4 .sh (b.gone.map V.bool),.int .i64 w] []=some (.bool true,[])
 sm:Cl 13 [vB c,vB c] []=some (.bool true,[])
 eq:c={Bz g j b.gone.length with gone:=c.gone}
theorem VN {g:Grf} (hl:g.es.length<1000000) {j:Job} {b:Bk} (hg:EG g j (b.gone.length:Int)=true) (hr:b.roots.length=b.gone.length) {w:Int} (hm:JU b w=true):∃c s,EvF g j b w c s:=by
 have hb':=hg
 simp only[EG,Bool.and_eq_true,decide_eq_true_eq]at hb'
 obtain⟨hj,w1,w2⟩:=hb'
 have hgn:=ABV hj
 have hm':=hm
 simp only[JU,Bool.and_eq_true,decide_eq_true_eq]at hm'
 obtain⟨m0,m1⟩:=hm'
 obtain⟨n,rfl⟩:=Int.eq_ofNat_of_zero_le m0
 rw[Int.toNat_natCast]at m1
 have hn:n<b.gone.length:=by
  by_cases h:n<b.gone.length
  ·exact h
  ·rw[List.getElem?_eq_none (by omega)]at m1;cases m1
 have ev:=Lu (b:=b) (by omega) (n:Int)
 rw[hm]at ev
 simp only[if_true,Int.toNat_natCast]at ev
 obtain⟨e1,e2⟩:=AMg (g:=g) (j:=j) m1 (by omega)
 have b1:(Aq 69).length≤10:=Af 10 _
 have b2:(Aq n).length≤10:=Af 10 _
 have ap:=TA hl hg hr (rec:=Aq 69++Aq n) (s:=Aq n) (by rw[List.length_append];omega) e1 (by omega)
 rw[e2]at ap
 have nb:=AIo (g:=g) (j:=j) (N:=b.gone.length) hgn.2 (by omega)
 refine⟨{Bz g j b.gone.length with gone:=b.gone.set n true},Aq 69++Aq n,ap,ev,AGV (by omega),ACZ ⟨by simp;omega,nb.roots,nb.known,nb.each,nb.len,nb.sent⟩ ?_,rfl⟩
 exact AIn
end
section
open Go AM
theorem ZC {l:List Vd} {i:Nat} (h:i<l.length):(Az (l.take (i+1))).length=(Az (l.take i)).length+l[i].sent.length:=by
 rw[←List.take_append_getElem h,Az,List.flatMap_append,List.length_append]
 simp[Az]
set_option maxHeartbeats 2000000 in
theorem AMk {g:Grf} (hl:g.es.length<1000000) {j:Job} {b:Bk} (hb:BkOk b) (hg:EG g j (b.gone.length:Int)=true) (hr:b.roots.length=b.gone.length) {l:List Vd} (h8:l.length≤8) (hv:∀v∈l,KZ v) (hc:ET (Az l)=true) {w:Int}:
 Vs (.lst 60 .sh (l.map Be)) (.int .i64 w) (.ref 0 [] 24) (.ref 1 [] 26) (.ref 2 [] 33) (.ref 3 [] 33) (.int .i64 ((Az l).length:Int)) (.int .i64 (l.length:Int)) [vG .sh g,vJ j,vB b,vB (VL b l)]=some (.bool true,[]):=by
 have ln:=Bc 60 .sh Be l
 have ls:AO .lss (.int .i64 (l.length:Int)) (.int .i64 (l.length:Int))=some (.bool false):=by rw[b_lss,decide_eq_false (by omega)]
 have lm:DK (.lst 108 .sh ((Bl (Az l)).map Ac))=some (.int .i64 ((Az l).length:Int)):=by rw[Bc,CZ]
 have ne:AO .neq (.int .i64 ((Az l).length:Int)) (.int .i64 ((Az l).length:Int))=some (.bool false):=by rw[b_neq];simp
 have hsl:=Gu hv
 have rt:=AGS (l:=Bl (Az l)) (by rw[CZ];omega)
 rw[show ET (Bl (Az l))=true from (TG (List.mergeSort_perm (Az l) _)).trans hc]at rt
 have ow:=XT hl
 have o7:=XV hb
 have ev:=Lu hb.gone w
 have lw1:Dq true [vG .sh g]=true:=rfl
 have lw2:Dq true [vB b]=true:=rfl
 have lw3:∀s,Dq true [vG .sh g,vJ j,vB b,.str s]=true:=fun _=>rfl
 have lw4:∀x,Dq true [vG .sh g,vJ j,.int .i64 x]=true:=fun _=>rfl
 have pb:=V.PF _ (AKI b)
 have wb:=pb.weak
 have q170:AO .neq (.int .i64 170) (.int .i64 0)=some (.bool true):=rfl
 have q0:AO .neq (.int .i64 0) (.int .i64 0)=some (.bool false):=rfl
 cases hm:JU b w with
 |false=>
  rw[hm]at ev
  simp only[Bool.false_eq_true,if_false]at ev
  rw[OY]
  clear hv hsl
  simp only[VL]at*
  generalize Bl (Az l)=S at*
  generalize ((Az l).length:Int)=sl at*
  generalize (l.length:Int)=z at*
  generalize l.map Be=L at*
  (repeat' with_reducible first|refine(Aj _ _).trans ?_|refine(Ak _ _).trans ?_|refine(AA _ _).trans ?_|((first|(refine' (AB ?_ _).trans ?_;rotate_left)|refine(if_pos ?_).trans ?_|refine(AX ?_ _ _).trans ?_);focus (first|rfl|(simp(disch:=first|assumption|omega|with_reducible rfl|(simp only[go_sem]<;>omega)|fail) only[↓reduceIte,↓AA,Nat.reduceAdd,go_sem,Bool.not_true,Bool.not_false,ln,ls,lm,ne,rt,o7,ev,q170]<;>first|rfl|omega)|assumption|omega))|(refine(AQ ?_ _ _).trans ?_;focus (first|(simp(disch:=first|assumption|omega|with_reducible rfl|(simp only[go_sem]<;>omega)|fail) only[↓reduceIte,↓AA,Nat.reduceAdd,go_sem,Bool.not_true,Bool.not_false,ln,ls,lm,ne,rt,o7,ev,q170]<;>omega)|assumption|omega))|fail)
  rfl
 |true=>
  obtain⟨c,s,F⟩:=VN hl hg hr hm
  obtain⟨Fa,Fe,Fg,Fm,Fq⟩:=F
  have nw:Cl 10 [vG .sh g,vJ j,.int .i64 (b.gone.length:Int)] []=some (.tup [vB (Bz g j b.gone.length),.int .i64 0],[]):=by
   have h:=Ls hl j (b.gone.length:Int)
   rw[if_pos hg]at h
   rw[h];rfl
  have eB:(V.agg Lr [.int .i64 (Bz g j b.gone.length).step,.lst 4 .sh (c.gone.map V.bool),.lst 55 .sh ((Bz g j b.gone.length).roots.map Au),.lst 58 .sh ((Bz g j b.gone.length).known.map sS),.lst 108 .sh ((Bz g j b.gone.length).sent.map Ac)])=vB c:=by
   rw[Fq]
  have lg:DK (.lst 4 .sh (b.gone.map V.bool))=some (.int .i64 (b.gone.length:Int)):=Bc ..
  rw[OY]
  clear hv hsl Fq
  simp only[VL]at*
  generalize Bl (Az l)=S at*
  generalize ((Az l).length:Int)=sl at*
  generalize (l.length:Int)=z at*
  generalize l.map Be=L at*
  generalize Bz g j b.gone.length=nb at*
  generalize (b.gone.length:Int)=gl at*
  (repeat' with_reducible first|refine(Aj _ _).trans ?_|refine(Ak _ _).trans ?_|refine(AA _ _).trans ?_|((first|(refine' (AB ?_ _).trans ?_;rotate_left)|refine(if_pos ?_).trans ?_|refine(AX ?_ _ _).trans ?_);focus (first|rfl|(simp(disch:=first|assumption|omega|with_reducible rfl|(simp only[go_sem]<;>omega)|fail) only[↓reduceIte,↓AA,Nat.reduceAdd,go_sem,Bool.not_true,Bool.not_false,ln,ls,lm,ne,rt,o7,Fe,q0,lw1,lw2,lw3,lw4,ow,Fa,nw,lg,Fg,eB,Fm]<;>first|rfl|omega)|assumption|omega))|(refine(AQ ?_ _ _).trans ?_;focus (first|(simp(disch:=first|assumption|omega|with_reducible rfl|(simp only[go_sem]<;>omega)|fail) only[↓reduceIte,↓AA,Nat.reduceAdd,go_sem,Bool.not_true,Bool.not_false,ln,ls,lm,ne,rt,o7,Fe,q0,lw1,lw2,lw3,lw4,ow,Fa,nw,lg,Fg,eB,Fm]<;>omega)|assumption|omega))|fail)
  rfl
end
section
open Go AM
set_option maxHeartbeats 2000000 in
theorem APJ {g:Grf} (hl:g.es.length<1000000) {j:Job} {b:Bk} (hb:BkOk b) (hg:EG g j (b.gone.length:Int)=true) (hr:b.roots.length=b.gone.length) {l:List Vd} (h8:l.length≤8) (hv:∀v∈l,KZ v) (hc:ET (Az l)=true) {w:Int}:∀(m i:Nat),i+m=l.length→
 Vs (.lst 60 .sh (l.map Be)) (.int .i64 w) (.ref 0 [] 24) (.ref 1 [] 26) (.ref 2 [] 33) (.ref 3 [] 33) (.int .i64 ((Az (l.take i)).length:Int)) (.int .i64 (i:Int)) [vG .sh g,vJ j,vB b,vB (VL b l)]=some (.bool true,[]):=by
 intro m
 induction m with
 |zero=>
  intro i hi
  obtain rfl:i=l.length:=by omega
  rw[List.take_length]
  exact AMk hl hb hg hr h8 hv hc
 |succ m ih=>
  intro i hi
  have h:i<l.length:=by omega
  obtain⟨v32,v12,_,v20,_⟩:=hv _ (List.getElem_mem h)
  have hst:=ZC h
  have hs1:=Gu (l:=l.take i) fun v hx=>hv v (List.mem_of_mem_take hx)
  have hlt:(l.take i).length≤8:=by rw[List.length_take];omega
  have ln:=Bc 60 .sh Be l
  have ls:AO .lss (.int .i64 (i:Int)) (.int .i64 (l.length:Int))=some (.bool true):=by rw[b_lss,decide_eq_true (by omega)]
  have ix:Di 60 (.lst 60 .sh (l.map Be)) (.int .i64 (i:Int))=some (.rop 60 (Be l[i])):=Hw (f:= .sh) (Xa h)
  have lm:DK (.lst 108 .sh (l[i].sent.map Ac))=some (.int .i64 (l[i].sent.length:Int)):=Bc ..
  have a1:AO .add (.int .i64 ((Az (l.take i)).length:Int)) (.int .i64 (l[i].sent.length:Int))=some (.int .i64 ((Az (l.take (i+1))).length:Int)):=by
   rw[DR,hst,wrap_i64 (by omega) (by omega)];rfl
  have ad:AO .add (.int .i64 (i:Int)) (.int .i64 1)=some (.int .i64 ((i+1:Nat):Int)):=by rw[DR,wrap_i64 (by omega) (by omega)];rfl
  have xR:Di 55 (.lst 55 .sh ((l.map (·.root)).map Au)) (.int .i64 (i:Int))=some (.rop 55 (Au l[i].root)):=Hw (f:= .sh) (by simp[h])
  have xK:Di 58 (.lst 58 .sh ((l.map (·.known)).map sS)) (.int .i64 (i:Int))=some (.rop 58 (sS l[i].known)):=Hw (f:= .sh) (by simp[h])
  have ne:NU (BK 54) .neq (Au l[i].root) (Au l[i].root)=some (.bool false):=by rw[neA v32 v32];simp
  have sk:=Sv (l:=l[i].known) (by omega)
  have lr:∀h (x:List UInt8),Aa h 55 (.rop 55 (Au x))=some (Au x):=fun h x=>by simp only[Aa,if_true]
  have lk:∀h (x:List (List UInt8)),BA h 58 (.rop 58 (sS x))=some (sS x):=fun h x=>by simp only[BA,Aa,if_true,Option.map_some,AIi]
  have rk:∀h,AL h [sS l[i].known,sS l[i].known]=[sS l[i].known,sS l[i].known]:=fun h=>rfl
  have wk:(sS l[i].known).weak=sS l[i].known:=rfl
  rw[←ih (i+1) (by omega),OY]
  clear ih hv hst hs1 hlt
  simp only[Be]at ix
  simp only[VL]at*
  generalize Bl (Az l)=S at*
  generalize ((Az (l.take i)).length:Int)=n0 at*
  generalize ((Az (l.take (i+1))).length:Int)=n1 at*
  generalize (i+1:Nat)=i2 at*
  generalize l.map (·.root)=R at*
  generalize l.map (·.known)=K at*
  generalize l[i]=v at*
  generalize (v.sent.length:Int)=vz at*
  generalize sS v.known=k at*
  generalize (l.length:Int)=z at*
  generalize l.map Be=L at*
  (repeat' with_reducible first|refine(Aj _ _).trans ?_|refine(Ak _ _).trans ?_|refine(AA _ _).trans ?_|((first|(refine' (AB ?_ _).trans ?_;rotate_left)|refine(if_pos ?_).trans ?_|refine(AX ?_ _ _).trans ?_);focus (first|rfl|(simp(disch:=first|assumption|omega|with_reducible rfl|(simp only[go_sem]<;>omega)|fail) only[↓reduceIte,↓AA,Nat.reduceAdd,go_sem,Bool.not_true,Bool.not_false,ln,ls,ix,lm,a1,xR,lr,ne,xK,wk,rk,sk,ad]<;>first|rfl|omega)|assumption|omega))|(refine(AQ ?_ _ _).trans ?_;focus (first|(simp(disch:=first|assumption|omega|with_reducible rfl|(simp only[go_sem]<;>omega)|fail) only[↓reduceIte,↓AA,Nat.reduceAdd,go_sem,Bool.not_true,Bool.not_false,ln,ls,ix,lm,a1,xR,lr,ne,xK,wk,rk,sk,ad]<;>omega)|assumption|omega))|fail)
  rfl
theorem AGW {b:Bk} {l:List Vd} (hv:∀v∈l,KZ v):(Qs b l).length≤20+3800*l.length:=by
 have h1:(Aq 65).length≤10:=Af 10 _
 have h2:(Aq b.step.toNat).length≤10:=Af 10 _
 have h3:(l.flatMap Vf).length≤3800*l.length:=by
  induction l with
  |nil=>simp
  |cons v l ih=>
   have:=ih fun x hx=>hv x (List.mem_cons_of_mem _ hx)
   have:=ABf (hv v List.mem_cons_self)
   simp only[List.flatMap_cons,List.length_append,List.length_cons];omega
 simp only[Qs,List.length_append];omega
set_option maxHeartbeats 4000000 in
theorem Xj {g:Grf} {j:Job} {b:Bk} {l:List Vd} (hb:AMh b) (hv:∀v∈l,AMi v) (hln:l.length<9223372036854775808) (w:Int):
 Cl 5 [vG .sh g,vJ j,vB b,.lst 60 .sh (l.map Be),.int .i64 w] []=some (.bool true,[]):=by
 have hA:=AI9
 have pb:=V.PF _ (AKI b)
 have wb:=pb.weak
 have ub:=pb.under 2
 have tb:BK Lr (vB b)=true:=Hu ..
 have r1:∀h,AL h [vB b]=[vB b]:=fun h=>by simp only[AL,pb.reify]
 have ld:BA [vG .sh g,vJ j,vB b] 33 (.ref 2 [] 33)=some (vB b):=by show some (vB b).weak=_;rw[wb]
 have r0:∀h,AL h []=[]:=fun h=>rfl
 have r4:∀h,AL h [V.lst 60 .sh (l.map Be)]=[V.lst 60 .sh (l.map Be)]:=fun h=>rfl
 have f1:=AIx hb.2.2.1 hb.2.2.2.1
 have f2:Cl 16 [.lst 60 .sh (l.map Be)] []=_:=AIz hln (fun v h=>(hv v h).2.1)
 by_cases h1:40<g.es.length
 ·rw[Gm]
  clear f1 f2 r4 hv hln
  generalize l.map Be=L at*
  (repeat' with_reducible first|refine(Aj _ _).trans ?_|refine(Ak _ _).trans ?_|refine(AA _ _).trans ?_|((first|(refine' (AB ?_ _).trans ?_;rotate_left)|refine(if_pos ?_).trans ?_|refine(AX ?_ _ _).trans ?_);focus (first|rfl|(simp(disch:=first|assumption|omega|with_reducible rfl|(simp only[go_sem]<;>omega)|fail) only[↓reduceIte,↓AA,Nat.reduceAdd,go_sem,Bool.not_true,Bool.not_false,wb,tb,ub,hA,r0]<;>first|rfl|omega)|assumption|omega))|(refine(AQ ?_ _ _).trans ?_;focus (first|(simp(disch:=first|assumption|omega|with_reducible rfl|(simp only[go_sem]<;>omega)|fail) only[↓reduceIte,↓AA,Nat.reduceAdd,go_sem,Bool.not_true,Bool.not_false,wb,tb,ub,hA,r0]<;>omega)|assumption|omega))|fail)
  rfl
 by_cases h2:12<g.n
 ·rw[Gm]
  clear f1 f2 r4 hv hln
  generalize l.map Be=L at*
  (repeat' with_reducible first|refine(Aj _ _).trans ?_|refine(Ak _ _).trans ?_|refine(AA _ _).trans ?_|((first|(refine' (AB ?_ _).trans ?_;rotate_left)|refine(if_pos ?_).trans ?_|refine(AX ?_ _ _).trans ?_);focus (first|rfl|(simp(disch:=first|assumption|omega|with_reducible rfl|(simp only[go_sem]<;>omega)|fail) only[↓reduceIte,↓AA,Nat.reduceAdd,go_sem,Bool.not_true,Bool.not_false,wb,tb,ub,hA,r0]<;>first|rfl|omega)|assumption|omega))|(refine(AQ ?_ _ _).trans ?_;focus (first|(simp(disch:=first|assumption|omega|with_reducible rfl|(simp only[go_sem]<;>omega)|fail) only[↓reduceIte,↓AA,Nat.reduceAdd,go_sem,Bool.not_true,Bool.not_false,wb,tb,ub,hA,r0]<;>omega)|assumption|omega))|fail)
  rfl
 cases hf:ACf b with
 |false=>
  rw[hf]at f1
  rw[Gm]
  clear f2 r4 hv hln
  generalize l.map Be=L at*
  generalize vB b=B at*
  (repeat' with_reducible first|refine(Aj _ _).trans ?_|refine(Ak _ _).trans ?_|refine(AA _ _).trans ?_|((first|(refine' (AB ?_ _).trans ?_;rotate_left)|refine(if_pos ?_).trans ?_|refine(AX ?_ _ _).trans ?_);focus (first|rfl|(simp(disch:=first|assumption|omega|with_reducible rfl|(simp only[go_sem]<;>omega)|fail) only[↓reduceIte,↓AA,Nat.reduceAdd,go_sem,Bool.not_true,Bool.not_false,wb,tb,ub,hA,r0,r1,ld,f1]<;>first|rfl|omega)|assumption|omega))|(refine(AQ ?_ _ _).trans ?_;focus (first|(simp(disch:=first|assumption|omega|with_reducible rfl|(simp only[go_sem]<;>omega)|fail) only[↓reduceIte,↓AA,Nat.reduceAdd,go_sem,Bool.not_true,Bool.not_false,wb,tb,ub,hA,r0,r1,ld,f1]<;>omega)|assumption|omega))|fail)
  rfl
 |true=>
 rw[hf]at f1
 cases hg:AGH l with
 |false=>
  rw[hg]at f2
  rw[Gm]
  clear hv hln
  generalize l.map Be=L at*
  generalize vB b=B at*
  (repeat' with_reducible first|refine(Aj _ _).trans ?_|refine(Ak _ _).trans ?_|refine(AA _ _).trans ?_|((first|(refine' (AB ?_ _).trans ?_;rotate_left)|refine(if_pos ?_).trans ?_|refine(AX ?_ _ _).trans ?_);focus (first|rfl|(simp(disch:=first|assumption|omega|with_reducible rfl|(simp only[go_sem]<;>omega)|fail) only[↓reduceIte,↓AA,Nat.reduceAdd,go_sem,Bool.not_true,Bool.not_false,wb,tb,ub,hA,r0,r1,ld,f1,r4,f2]<;>first|rfl|omega)|assumption|omega))|(refine(AQ ?_ _ _).trans ?_;focus (first|(simp(disch:=first|assumption|omega|with_reducible rfl|(simp only[go_sem]<;>omega)|fail) only[↓reduceIte,↓AA,Nat.reduceAdd,go_sem,Bool.not_true,Bool.not_false,wb,tb,ub,hA,r0,r1,ld,f1,r4,f2]<;>omega)|assumption|omega))|fail)
  rfl
 |true=>
 rw[hg]at f2
 have hl:g.es.length<1000000:=by omega
 have ok:=AMj hb hf
 obtain⟨hl8,hvk⟩:=AJA hv hg
 have rt:=ACT hl j (b.gone.length:Int)
 have lg:DK (.lst 4 .sh (b.gone.map V.bool))=some (.int .i64 (b.gone.length:Int)):=Bc ..
 have lr:DK (.lst 55 .sh (b.roots.map Au))=some (.int .i64 (b.roots.length:Int)):=Bc ..
 have pg:(vG .sh g).pl=true:=by simp only[go_sem]
 have rg:∀h n,AL h [vG .sh g,vJ j,.int .i64 n]=[vG .sh g,vJ j,.int .i64 n]:=fun h n=>by simp only[AL,(V.PF _ pg).reify];rfl
 cases hgb:EG g j (b.gone.length:Int)with
 |false=>
  rw[hgb]at rt
  rw[Gm]
  clear hv hln
  generalize (b.gone.length:Int)=gl at*
  generalize l.map Be=L at*
  (repeat' with_reducible first|refine(Aj _ _).trans ?_|refine(Ak _ _).trans ?_|refine(AA _ _).trans ?_|((first|(refine' (AB ?_ _).trans ?_;rotate_left)|refine(if_pos ?_).trans ?_|refine(AX ?_ _ _).trans ?_);focus (first|rfl|(simp(disch:=first|assumption|omega|with_reducible rfl|(simp only[go_sem]<;>omega)|fail) only[↓reduceIte,↓AA,Nat.reduceAdd,go_sem,Bool.not_true,Bool.not_false,wb,tb,ub,hA,r0,r1,ld,f1,r4,f2,lg,rg,rt]<;>first|rfl|omega)|assumption|omega))|(refine(AQ ?_ _ _).trans ?_;focus (first|(simp(disch:=first|assumption|omega|with_reducible rfl|(simp only[go_sem]<;>omega)|fail) only[↓reduceIte,↓AA,Nat.reduceAdd,go_sem,Bool.not_true,Bool.not_false,wb,tb,ub,hA,r0,r1,ld,f1,r4,f2,lg,rg,rt]<;>omega)|assumption|omega))|fail)
  rfl
 |true=>
 rw[hgb]at rt
 by_cases hr:b.roots.length=b.gone.length
 rotate_left
 ·have ne:AO .neq (.int .i64 (b.roots.length:Int)) (.int .i64 (b.gone.length:Int))=some (.bool true):=by rw[b_neq];simp;omega
  rw[Gm]
  clear hv hln
  generalize (b.gone.length:Int)=gl at*
  generalize (b.roots.length:Int)=rl at*
  generalize l.map Be=L at*
  (repeat' with_reducible first|refine(Aj _ _).trans ?_|refine(Ak _ _).trans ?_|refine(AA _ _).trans ?_|((first|(refine' (AB ?_ _).trans ?_;rotate_left)|refine(if_pos ?_).trans ?_|refine(AX ?_ _ _).trans ?_);focus (first|rfl|(simp(disch:=first|assumption|omega|with_reducible rfl|(simp only[go_sem]<;>omega)|fail) only[↓reduceIte,↓AA,Nat.reduceAdd,go_sem,Bool.not_true,Bool.not_false,wb,tb,ub,hA,r0,r1,ld,f1,r4,f2,lg,rg,rt,lr,ne]<;>first|rfl|omega)|assumption|omega))|(refine(AQ ?_ _ _).trans ?_;focus (first|(simp(disch:=first|assumption|omega|with_reducible rfl|(simp only[go_sem]<;>omega)|fail) only[↓reduceIte,↓AA,Nat.reduceAdd,go_sem,Bool.not_true,Bool.not_false,wb,tb,ub,hA,r0,r1,ld,f1,r4,f2,lg,rg,rt,lr,ne]<;>omega)|assumption|omega))|fail)
  rfl
 have ne:AO .neq (.int .i64 (b.roots.length:Int)) (.int .i64 (b.gone.length:Int))=some (.bool false):=by rw[b_neq,hr];simp
 have ow:=XT hl
 have o7:=XV ok
 have ev:=Lu ok.gone w
 have hcl:AY (l.map Be)=true:=(V.PFL _ (ABd l)).clean
 have apv:∀h,G6 60 (BK tVd) true h (.lst 60 .own []) (.lst 60 .sh (l.map Be))=some (.lst 60 .own (l.map Be)):=fun h=>by
  rw[Eg hcl (AIv l) (by simp;omega),List.nil_append]
  have:nlB true (l.map Be)=l.map Be:=(V.PFL _ (ABd l)).norm
  rw[this]
 have r2:∀h,AL h [vB b,V.lst 60 .own (l.map Be)]=[vB b,V.lst 60 .sh (l.map Be)]:=fun h=>by simp only[AL,pb.reify];rfl
 have r3:∀h,AL h [vB b,V.int .i64 w]=[vB b,V.int .i64 w]:=fun h=>by simp only[AL,pb.reify];rfl
 have h8r:b.roots.length≤8:=by
  simp only[ACf,Bool.and_eq_true,decide_eq_true_eq]at hf
  exact hf.2.2.1
 have ac:=Y9 (b:=b) (l:=l) h8r hb.1.2 hl8 hvk
 have ft:=AI8 hl8 hvk
 have lw1:Dq true [vG .sh g]=true:=rfl
 have lw2:Dq true [vB b]=true:=rfl
 have lw3:∀s,Dq true [vG .sh g,vJ j,vB b,.str s]=true:=fun _=>rfl
 have lw4:∀x,Dq true [vG .sh g,vJ j,.int .i64 x]=true:=fun _=>rfl
 have rg4:∀h s,AL h [vG .sh g,vJ j,vB b,.str s]=[vG .sh g,vJ j,vB b,.str s]:=fun h s=>by simp only[AL,(V.PF _ pg).reify,pb.reify];rfl
 have rg1:∀h,AL h [vG .sh g]=[vG .sh g]:=fun h=>by simp only[AL,(V.PF _ pg).reify]
 have q170:AO .neq (.int .i64 170) (.int .i64 0)=some (.bool true):=rfl
 have q0:AO .neq (.int .i64 0) (.int .i64 0)=some (.bool false):=rfl
 have e170:AO .eql (.int .i64 170) (.int .i64 0)=some (.bool false):=rfl
 have e0:AO .eql (.int .i64 0) (.int .i64 0)=some (.bool true):=rfl
 have nw:Cl 10 [vG .sh g,vJ j,.int .i64 (b.gone.length:Int)] []=some (.tup [vB (Bz g j b.gone.length),.int .i64 0],[]):=by
  have h:=Ls hl j (b.gone.length:Int)
  rw[if_pos hgb]at h
  rw[h];rfl
 have hS:∃(s:List UInt8) (e:Int),Cl 17 [vB b,.lst 60 .sh (l.map Be)] []=some (.tup [.str s,.int .i64 e],[])∧
  (e=170∨(e=0∧¬b.step<j.steps)∨(e=0∧b.step<j.steps∧VK l=false)∨(e=0∧b.step<j.steps∧VK l=true∧okA b l=true∧ET (Az l)=true∧s=Qs b l++DX (D7 (Az l)))):=by
  rw[ac]
  by_cases ho:okA b l=true
  ·rw[if_pos ho,AI4]
   by_cases hc:ET (Az l)=true
   ·rw[if_pos hc]
    refine⟨_,0,rfl,Or.inr ?_⟩
    by_cases h:b.step<j.steps
    ·cases hfl:VK l with
     |false=>exact Or.inr (Or.inl ⟨rfl,h,rfl⟩)
     |true=>exact Or.inr (Or.inr ⟨rfl,h,rfl,ho,hc,rfl⟩)
    ·exact Or.inl ⟨rfl,h⟩
   ·rw[if_neg hc];exact⟨_,170,rfl,Or.inl rfl⟩
  ·rw[if_neg ho];exact⟨_,170,rfl,Or.inl rfl⟩
 obtain⟨s,e,hs,hcase⟩:=hS
 clear ac
 rcases hcase with rfl|⟨rfl,h64⟩|⟨rfl,h64,hfl⟩|⟨rfl,h64,hfl,ho,hc,rfl⟩
 ·skip
  cases hm:JU b w with
  |false=>
   rw[hm]at ev
   simp only[Bool.false_eq_true,if_false]at ev
   rw[Gm]
   clear hv hln hcl hvk hl8 ok hb ow nw
   generalize (b.gone.length:Int)=gl at*
   generalize (b.roots.length:Int)=rl at*
   generalize l.map Be=L at*
   (repeat' with_reducible first|refine(Aj _ _).trans ?_|refine(Ak _ _).trans ?_|refine(AA _ _).trans ?_|((first|(refine' (AB ?_ _).trans ?_;rotate_left)|refine(if_pos ?_).trans ?_|refine(AX ?_ _ _).trans ?_);focus (first|rfl|(simp(disch:=first|assumption|omega|with_reducible rfl|(simp only[go_sem]<;>omega)|fail) only[↓reduceIte,↓AA,Nat.reduceAdd,go_sem,Bool.not_true,Bool.not_false,wb,tb,ub,hA,r0,r1,ld,f1,r4,f2,lg,rg,rt,lr,ne,o7,apv,r2,hs,r3,ev,q170,e170]<;>first|rfl|omega)|assumption|omega))|(refine(AQ ?_ _ _).trans ?_;focus (first|(simp(disch:=first|assumption|omega|with_reducible rfl|(simp only[go_sem]<;>omega)|fail) only[↓reduceIte,↓AA,Nat.reduceAdd,go_sem,Bool.not_true,Bool.not_false,wb,tb,ub,hA,r0,r1,ld,f1,r4,f2,lg,rg,rt,lr,ne,o7,apv,r2,hs,r3,ev,q170,e170]<;>omega)|assumption|omega))|fail)
   rfl
  |true=>
   obtain⟨c,s2,F⟩:=VN hl hgb hr hm
   obtain⟨Fa,Fe,Fg,Fm,Fq⟩:=F
   have eB:(V.agg Lr [.int .i64 (Bz g j b.gone.length).step,.lst 4 .sh (c.gone.map V.bool),.lst 55 .sh ((Bz g j b.gone.length).roots.map Au),.lst 58 .sh ((Bz g j b.gone.length).known.map sS),.lst 108 .sh ((Bz g j b.gone.length).sent.map Ac)])=vB c:=by
    rw[Fq]
   rw[Gm]
   clear hv hln hcl hvk hl8 ok hb ev Fq
   generalize Bz g j b.gone.length=nb at*
   generalize (b.gone.length:Int)=gl at*
   generalize (b.roots.length:Int)=rl at*
   generalize l.map Be=L at*
   (repeat' with_reducible first|refine(Aj _ _).trans ?_|refine(Ak _ _).trans ?_|refine(AA _ _).trans ?_|((first|(refine' (AB ?_ _).trans ?_;rotate_left)|refine(if_pos ?_).trans ?_|refine(AX ?_ _ _).trans ?_);focus (first|rfl|(simp(disch:=first|assumption|omega|with_reducible rfl|(simp only[go_sem]<;>omega)|fail) only[↓reduceIte,↓AA,Nat.reduceAdd,go_sem,Bool.not_true,Bool.not_false,wb,tb,ub,hA,r0,r1,ld,f1,r4,f2,lg,rg,rt,lr,ne,o7,apv,r2,hs,r3,q0,lw1,lw2,lw3,lw4,ow,Fe,Fa,nw,Fg,eB,Fm,e170]<;>first|rfl|omega)|assumption|omega))|(refine(AQ ?_ _ _).trans ?_;focus (first|(simp(disch:=first|assumption|omega|with_reducible rfl|(simp only[go_sem]<;>omega)|fail) only[↓reduceIte,↓AA,Nat.reduceAdd,go_sem,Bool.not_true,Bool.not_false,wb,tb,ub,hA,r0,r1,ld,f1,r4,f2,lg,rg,rt,lr,ne,o7,apv,r2,hs,r3,q0,lw1,lw2,lw3,lw4,ow,Fe,Fa,nw,Fg,eB,Fm,e170]<;>omega)|assumption|omega))|fail)
   rfl
 ·have ls:AO .lss (.int .i64 b.step) (.int .i64 j.steps)=some (.bool false):=by rw[b_lss,decide_eq_false h64]
  cases hm:JU b w with
  |false=>
   rw[hm]at ev
   simp only[Bool.false_eq_true,if_false]at ev
   rw[Gm]
   clear hv hln hcl hvk hl8 ok hb ow nw
   generalize (b.gone.length:Int)=gl at*
   generalize (b.roots.length:Int)=rl at*
   generalize l.map Be=L at*
   (repeat' with_reducible first|refine(Aj _ _).trans ?_|refine(Ak _ _).trans ?_|refine(AA _ _).trans ?_|((first|(refine' (AB ?_ _).trans ?_;rotate_left)|refine(if_pos ?_).trans ?_|refine(AX ?_ _ _).trans ?_);focus (first|rfl|(simp(disch:=first|assumption|omega|with_reducible rfl|(simp only[go_sem]<;>omega)|fail) only[↓reduceIte,↓AA,Nat.reduceAdd,go_sem,Bool.not_true,Bool.not_false,wb,tb,ub,hA,r0,r1,ld,f1,r4,f2,lg,rg,rt,lr,ne,o7,apv,r2,hs,r3,ev,q170,e0,ls]<;>first|rfl|omega)|assumption|omega))|(refine(AQ ?_ _ _).trans ?_;focus (first|(simp(disch:=first|assumption|omega|with_reducible rfl|(simp only[go_sem]<;>omega)|fail) only[↓reduceIte,↓AA,Nat.reduceAdd,go_sem,Bool.not_true,Bool.not_false,wb,tb,ub,hA,r0,r1,ld,f1,r4,f2,lg,rg,rt,lr,ne,o7,apv,r2,hs,r3,ev,q170,e0,ls]<;>omega)|assumption|omega))|fail)
   rfl
  |true=>
   obtain⟨c,s2,F⟩:=VN hl hgb hr hm
   obtain⟨Fa,Fe,Fg,Fm,Fq⟩:=F
   have eB:(V.agg Lr [.int .i64 (Bz g j b.gone.length).step,.lst 4 .sh (c.gone.map V.bool),.lst 55 .sh ((Bz g j b.gone.length).roots.map Au),.lst 58 .sh ((Bz g j b.gone.length).known.map sS),.lst 108 .sh ((Bz g j b.gone.length).sent.map Ac)])=vB c:=by
    rw[Fq]
   rw[Gm]
   clear hv hln hcl hvk hl8 ok hb ev Fq
   generalize Bz g j b.gone.length=nb at*
   generalize (b.gone.length:Int)=gl at*
   generalize (b.roots.length:Int)=rl at*
   generalize l.map Be=L at*
   (repeat' with_reducible first|refine(Aj _ _).trans ?_|refine(Ak _ _).trans ?_|refine(AA _ _).trans ?_|((first|(refine' (AB ?_ _).trans ?_;rotate_left)|refine(if_pos ?_).trans ?_|refine(AX ?_ _ _).trans ?_);focus (first|rfl|(simp(disch:=first|assumption|omega|with_reducible rfl|(simp only[go_sem]<;>omega)|fail) only[↓reduceIte,↓AA,Nat.reduceAdd,go_sem,Bool.not_true,Bool.not_false,wb,tb,ub,hA,r0,r1,ld,f1,r4,f2,lg,rg,rt,lr,ne,o7,apv,r2,hs,r3,q0,lw1,lw2,lw3,lw4,ow,Fe,Fa,nw,Fg,eB,Fm,e0,ls]<;>first|rfl|omega)|assumption|omega))|(refine(AQ ?_ _ _).trans ?_;focus (first|(simp(disch:=first|assumption|omega|with_reducible rfl|(simp only[go_sem]<;>omega)|fail) only[↓reduceIte,↓AA,Nat.reduceAdd,go_sem,Bool.not_true,Bool.not_false,wb,tb,ub,hA,r0,r1,ld,f1,r4,f2,lg,rg,rt,lr,ne,o7,apv,r2,hs,r3,q0,lw1,lw2,lw3,lw4,ow,Fe,Fa,nw,Fg,eB,Fm,e0,ls]<;>omega)|assumption|omega))|fail)
   rfl
 ·have ls:AO .lss (.int .i64 b.step) (.int .i64 j.steps)=some (.bool true):=by rw[b_lss,decide_eq_true h64]
  rw[hfl]at ft
  cases hm:JU b w with
  |false=>
   rw[hm]at ev
   simp only[Bool.false_eq_true,if_false]at ev
   rw[Gm]
   clear hv hln hcl hvk hl8 ok hb ow nw
   generalize (b.gone.length:Int)=gl at*
   generalize (b.roots.length:Int)=rl at*
   generalize l.map Be=L at*
   (repeat' with_reducible first|refine(Aj _ _).trans ?_|refine(Ak _ _).trans ?_|refine(AA _ _).trans ?_|((first|(refine' (AB ?_ _).trans ?_;rotate_left)|refine(if_pos ?_).trans ?_|refine(AX ?_ _ _).trans ?_);focus (first|rfl|(simp(disch:=first|assumption|omega|with_reducible rfl|(simp only[go_sem]<;>omega)|fail) only[↓reduceIte,↓AA,Nat.reduceAdd,go_sem,Bool.not_true,Bool.not_false,wb,tb,ub,hA,r0,r1,ld,f1,r4,f2,lg,rg,rt,lr,ne,o7,apv,r2,hs,r3,ev,q170,e0,ls,ft]<;>first|rfl|omega)|assumption|omega))|(refine(AQ ?_ _ _).trans ?_;focus (first|(simp(disch:=first|assumption|omega|with_reducible rfl|(simp only[go_sem]<;>omega)|fail) only[↓reduceIte,↓AA,Nat.reduceAdd,go_sem,Bool.not_true,Bool.not_false,wb,tb,ub,hA,r0,r1,ld,f1,r4,f2,lg,rg,rt,lr,ne,o7,apv,r2,hs,r3,ev,q170,e0,ls,ft]<;>omega)|assumption|omega))|fail)
   rfl
  |true=>
   obtain⟨c,s2,F⟩:=VN hl hgb hr hm
   obtain⟨Fa,Fe,Fg,Fm,Fq⟩:=F
   have eB:(V.agg Lr [.int .i64 (Bz g j b.gone.length).step,.lst 4 .sh (c.gone.map V.bool),.lst 55 .sh ((Bz g j b.gone.length).roots.map Au),.lst 58 .sh ((Bz g j b.gone.length).known.map sS),.lst 108 .sh ((Bz g j b.gone.length).sent.map Ac)])=vB c:=by
    rw[Fq]
   rw[Gm]
   clear hv hln hcl hvk hl8 ok hb ev Fq
   generalize Bz g j b.gone.length=nb at*
   generalize (b.gone.length:Int)=gl at*
   generalize (b.roots.length:Int)=rl at*
   generalize l.map Be=L at*
   (repeat' with_reducible first|refine(Aj _ _).trans ?_|refine(Ak _ _).trans ?_|refine(AA _ _).trans ?_|((first|(refine' (AB ?_ _).trans ?_;rotate_left)|refine(if_pos ?_).trans ?_|refine(AX ?_ _ _).trans ?_);focus (first|rfl|(simp(disch:=first|assumption|omega|with_reducible rfl|(simp only[go_sem]<;>omega)|fail) only[↓reduceIte,↓AA,Nat.reduceAdd,go_sem,Bool.not_true,Bool.not_false,wb,tb,ub,hA,r0,r1,ld,f1,r4,f2,lg,rg,rt,lr,ne,o7,apv,r2,hs,r3,q0,lw1,lw2,lw3,lw4,ow,Fe,Fa,nw,Fg,eB,Fm,e0,ls,ft]<;>first|rfl|omega)|assumption|omega))|(refine(AQ ?_ _ _).trans ?_;focus (first|(simp(disch:=first|assumption|omega|with_reducible rfl|(simp only[go_sem]<;>omega)|fail) only[↓reduceIte,↓AA,Nat.reduceAdd,go_sem,Bool.not_true,Bool.not_false,wb,tb,ub,hA,r0,r1,ld,f1,r4,f2,lg,rg,rt,lr,ne,o7,apv,r2,hs,r3,q0,lw1,lw2,lw3,lw4,ow,Fe,Fa,nw,Fg,eB,Fm,e0,ls,ft]<;>omega)|assumption|omega))|fail)
   rfl
 ·have ls:AO .lss (.int .i64 b.step) (.int .i64 j.steps)=some (.bool true):=by rw[b_lss,decide_eq_true h64]
  rw[hfl]at ft
  have hj64:j.steps≤64:=by
   simp only[EG,Bool.and_eq_true,decide_eq_true_eq]at hgb
   exact(of_decide_eq_true hgb.1).2.2.2.2.2
  have pl:=QE (Az l)
  have sl:=Gu hvk
  have tl:=KY (s:=D7 (Az l))
  have asl:=AGW (b:=b) hvk
  have ap:=AGN hl (b:=b) hgb hr (by omega) (rec:=Qs b l++DX (D7 (Az l))) (by rw[List.length_append];omega)
  rw[AI5 hvk hl8 hfl ho hc h64 hj64]at ap
  simp only[opB,Option.getD_some,Option.isSome_some,if_true]at ap
  have lp:=APJ hl ok hgb hr hl8 hvk hc (w:=w) l.length 0 (by omega)
  rw[List.take_zero]at lp
  have ho':=ho
  simp only[okA,Bool.and_eq_true,decide_eq_true_eq]at ho'
  obtain⟨o1,_,o3⟩:=ho'
  have ad:AO .add (.int .i64 b.step) (.int .i64 1)=some (.int .i64 (b.step+1)):=by rw[DR,wrap_i64 (by omega) (by omega)]
  have n1:AO .neq (.int .i64 (b.step+1)) (.int .i64 (b.step+1))=some (.bool false):=by rw[b_neq];simp
  have lR:DK (.lst 55 .sh ((l.map (·.root)).map Au))=some (.int .i64 (b.roots.length:Int)):=by rw[Bc,List.length_map,o1]
  have n2:AO .neq (.int .i64 (b.roots.length:Int)) (.int .i64 (b.roots.length:Int))=some (.bool false):=by rw[b_neq];simp
  have lK:DK (.lst 58 .sh ((l.map (·.known)).map sS))=some (.int .i64 (l.length:Int)):=by rw[Bc,List.length_map]
  have lL:DK (.lst 60 .sh (l.map Be))=some (.int .i64 (l.length:Int)):=Bc ..
  have n3:AO .neq (.int .i64 (l.length:Int)) (.int .i64 (l.length:Int))=some (.bool false):=by rw[b_neq];simp
  have sg:=AJB ok.gone
  rw[Gm,←lp]
  clear hv hln hcl hvk hl8 ok hb ev nw lp pl sl tl asl o1 o3 ho hc
  simp only[VL]at*
  generalize Qs b l++DX (D7 (Az l))=s at*
  generalize Bl (Az l)=S at*
  generalize l.map (·.root)=R at*
  generalize l.map (·.known)=K at*
  generalize (b.gone.length:Int)=gl at*
  generalize (b.roots.length:Int)=rl at*
  generalize (l.length:Int)=z at*
  generalize l.map Be=L at*
  (repeat' with_reducible first|refine(Aj _ _).trans ?_|refine(Ak _ _).trans ?_|refine(AA _ _).trans ?_|((first|(refine' (AB ?_ _).trans ?_;rotate_left)|refine(if_pos ?_).trans ?_|refine(AX ?_ _ _).trans ?_);focus (first|rfl|(simp(disch:=first|assumption|omega|with_reducible rfl|(simp only[go_sem]<;>omega)|fail) only[↓reduceIte,↓AA,Nat.reduceAdd,go_sem,Bool.not_true,Bool.not_false,wb,tb,ub,hA,r0,r1,ld,f1,r4,f2,lg,rg,rt,lr,ne,o7,apv,r2,hs,e0,ls,ft,lw1,lw2,lw3,ow,ap,q0,ad,n1,lR,n2,lK,lL,n3,sg]<;>first|rfl|omega)|assumption|omega))|(refine(AQ ?_ _ _).trans ?_;focus (first|(simp(disch:=first|assumption|omega|with_reducible rfl|(simp only[go_sem]<;>omega)|fail) only[↓reduceIte,↓AA,Nat.reduceAdd,go_sem,Bool.not_true,Bool.not_false,wb,tb,ub,hA,r0,r1,ld,f1,r4,f2,lg,rg,rt,lr,ne,o7,apv,r2,hs,e0,ls,ft,lw1,lw2,lw3,ow,ap,q0,ad,n1,lR,n2,lK,lL,n3,sg]<;>omega)|assumption|omega))|fail)
  rfl
end
end Go.Proofs.YtiegkempfolgcaaGreatDoor
