/-
  Part of the proof of a statement about the given program: an abstract machine over its code, the simulation, its functions' equations, what they compute.
-/
import Derived.Test.YtiegkempfolgcaaGreatDoorMg12
import Derived.Test.YtiegkempfolgcaaGreatDoorMg5
set_option linter.unusedVariables false
set_option linter.unusedSimpArgs false
set_option linter.unusedSectionVars false
set_option maxRecDepth 100000
noncomputable section
namespace Go.Proofs.YtiegkempfolgcaaGreatDoor
section
open Go AM
theorem AOt (b:Bk):(vB b).pl=true:=by simp only[V.pl,G5,Eb,Ec,Qr,Gt];rfl
structure BkN (N:Nat) (b:Bk):Prop where
 ok:BkOk b
 gone:b.gone.length=N
 roots:b.roots.length=N
 known:b.known.length=N
 step:0≤b.step∧b.step≤64
 sent:b.sent.length≤512
theorem AOu (s0:List UInt8):∀(n:Nat) (acc:List Msg) (s:List UInt8),(V8 s0 n acc s).1.length≤acc.length+n:=by
 intro n
 induction n with
 |zero=>
  intro acc s
  rw[V8]
  split
  ·simp
  ·split<;>simp
 |succ n ih=>
  intro acc s
  rw[V8]
  split
  ·simp
  ·split
   ·simp
   ·have:=ih (acc++[(Jl (textIn 40 s 0).1).1]) (textIn 40 s 0).2.1
    simp only[List.length_append,List.length_cons,List.length_nil]at this
    omega
theorem AOv (s:List UInt8):(Q8 s).1.length≤512:=by
 rw[Q8]
 split
 ·simp
 ·split
  ·simp
  ·have:=AOu s (AP s 0).1 [] (AP s 0).2.1
   simp only[List.length_nil]at this
   omega
theorem AAF {s:List UInt8} {e:Nat} {l:List (List UInt8)} (h:(BB s e).1=some l):l.length≤64:=by
 rw[BB]at h
 split at h
 ·cases h
 ·have:=(KD (AP s e).1 [] (AP s e).2.1 (AP s e).2.2).2
  simp only[Option.some.injEq]at h
  subst h
  simp only[List.length_nil]at this
  omega
theorem AK4:∀(n:Nat) (st:Int) (gone:List Bool) (rs:List (List UInt8)) (ks:List (List (List UInt8))) (s:List UInt8) (e:Nat),(∀r∈rs,r.length=32)→(∀k∈ks,k.length≤64)→rs.length=ks.length→(Gf n st gone rs ks s e).2.1=true→
 (Gf n st gone rs ks s e).1.step=st∧(Gf n st gone rs ks s e).1.gone=gone∧(Gf n st gone rs ks s e).1.roots.length=rs.length+n∧(Gf n st gone rs ks s e).1.known.length=ks.length+n∧
 (∀r∈(Gf n st gone rs ks s e).1.roots,r.length=32)∧(∀k∈(Gf n st gone rs ks s e).1.known,k.length≤64)∧(Gf n st gone rs ks s e).1.sent.length≤512:=by
 intro n
 induction n with
 |zero=>
  intro st gone rs ks s e h1 h2 h3 h
  exact⟨rfl,rfl,rfl,rfl,h1,h2,AOv _⟩
 |succ n ih=>
  intro st gone rs ks s e h1 h2 h3 h
  cases hl:(BB (Aa s e).2.1 (Aa s e).2.2).1 with
  |none=>rw[AHx hl]at h;cases h
  |some l=>
   rw[AHy hl]at h⊢
   have:=ih st gone (rs++[(Aa s e).1]) (ks++[l]) _ _ (by
    intro r hr
    rcases List.mem_append.1 hr with hr|hr
    ·exact h1 r hr
    ·rw[List.mem_singleton.1 hr];exact(Qp s e).1) (by
    intro k hk
    rcases List.mem_append.1 hk with hk|hk
    ·exact h2 k hk
    ·rw[List.mem_singleton.1 hk];exact AAF hl) (by simp;omega) h
   simp only[List.length_append,List.length_cons,List.length_nil]at this
   refine⟨this.1,this.2.1,by omega,by omega,this.2.2.2.2⟩
def Nxt (b c:Bk):Prop:=(c.gone=b.gone∧c.step=b.step+1)∨∃w:Nat,b.gone[w]?=some false∧c.gone=b.gone.set w true∧c.step=0
theorem AH3 {g:Grf} {j:Job} {N:Nat} (hg:DC g j (N:Int)=true) {b c:Bk} (hb:BkN N b) {rec:List UInt8} (h:Ub g j b rec=some c):BkN N c∧Nxt b c:=by
 simp only[DC,Bool.and_eq_true,decide_eq_true_eq]at hg
 obtain⟨hj,n1,n2⟩:=hg
 have hgn:=Og hj
 have h64:j.steps≤64:=(of_decide_eq_true hj).2.2.2.2.2
 have hk:=hb.known
 have hr:=hb.roots
 have hgo:=hb.gone
 rw[Ub]at h
 split at h
 ·split at h
  ·rename_i ha
   cases h
   rw[MP]at ha⊢
   split at ha
   ·rename_i hm
    rw[if_pos hm]
    simp only[AH1,Bool.and_eq_true,decide_eq_true_eq]at hm
    have k:=AK4 b.roots.length (b.step+1) b.gone [] [] _ _ (by simp) (by simp) rfl ha
    simp only[List.length_nil,Nat.zero_add]at k
    obtain⟨k1,k2,k3,k4,k5,k6,k7⟩:=k
    exact⟨⟨⟨by rw[k2];omega,by omega,by omega,fun x hx=>by have:=k6 x hx;omega,k5,by omega⟩,by rw[k2];exact hgo,by omega,by omega,by omega,k7⟩,Or.inl ⟨k2,k1⟩⟩
   ·cases ha
  ·cases h
 ·split at h
  ·rw[evB]at h
   split at h
   ·rename_i hm
    cases h
    have nb:=ACz (g:=g) (j:=j) (N:=b.gone.length) hgn.2 (by omega)
    have nr:(Bd g j b.gone.length).roots.length=b.gone.length:=by simp[Bd]
    have nk:(Bd g j b.gone.length).known.length=b.gone.length:=by simp[Bd]
    have ns:(Bd g j b.gone.length).sent=[]:=rfl
    have nt:(Bd g j b.gone.length).step=0:=rfl
    exact⟨⟨⟨by simp;omega,nb.roots,nb.known,nb.each,nb.len,nb.sent⟩,by simp;omega,by rw[nr];omega,by rw[nk];omega,by rw[nt];omega,by rw[ns];simp⟩,Or.inr ⟨_,hm.2,rfl,nt⟩⟩
   ·cases h
  ·cases h
theorem AH4 {g:Grf} {j:Job} {N:Nat} (hg:DC g j (N:Int)=true):BkN N (Bd g j N):=by
 simp only[DC,Bool.and_eq_true,decide_eq_true_eq]at hg
 obtain⟨hj,n1,n2⟩:=hg
 have hgn:=Og hj
 exact⟨ACz hgn.2 (by omega),by simp[Bd],by simp[Bd],by simp[Bd],by simp[Bd],by simp[Bd]⟩
def Di (g:Grf) (j:Job):Bk→List (List UInt8)→Bk×Nat
 |b,[]=>(b,0)
 |b,r::rs=>match Ub g j b r with
  |none=>(b,0)
  |some c=>((Di g j c rs).1,(Di g j c rs).2+1)
theorem ADA (g:Grf) (j:Job):∀(rs:List (List UInt8)) (b:Bk),(Di g j b rs).2≤rs.length
 |[],_=>Nat.le_refl _
 |r::rs,b=>by
  rw[Di]
  split
  ·simp
  ·rename_i c _
   have:=ADA g j rs c
   simp only[List.length_cons];omega
theorem RF {g:Grf} {j:Job} {b:Bk} {r:List UInt8} {rs:List (List UInt8)} (h:Ub g j b r=none):Di g j b (r::rs)=(b,0):=by simp only[Di,h]
theorem RG {g:Grf} {j:Job} {b c:Bk} {r:List UInt8} {rs:List (List UInt8)} (h:Ub g j b r=some c):Di g j b (r::rs)=((Di g j c rs).1,(Di g j c rs).2+1):=by simp only[Di,h]
theorem Uc (g:Grf) (j:Job):∀(rs:List (List UInt8)) (b:Bk) (k:Nat),(Di g j b (rs.take k)).2=min (Di g j b rs).2 k
 |[],b,k=>by simp[Di]
 |r::rs,b,0=>by simp[Di]
 |r::rs,b,k+1=>by
  rw[List.take_succ_cons]
  cases h:Ub g j b r with
  |none=>rw[RF h,RF h];simp
  |some c=>
   rw[RG h,RG h]
   have:=Uc g j rs c k
   simp only[this];omega
theorem AAG {g:Grf} (hl:g.es.length<1000000) {j:Job} {N:Nat} (hg:DC g j (N:Int)=true) {b:Bk} (hb:BkN N b) {rec:List UInt8} (hrec:rec.length≤100000):
 Cl 23 [vG .sh g,vJ j,vB b,.str rec] []=some (.tup [vB (ZH (Ub g j b rec)),.int .i64 (if(Ub g j b rec).isSome=true then 0 else 171)],[]):=
 AH2 hl (by rw[hb.gone];exact hg) (by rw[hb.roots,hb.gone]) (by have:=hb.step;omega) (by omega)
abbrev sR (l:List (List UInt8)):V:= .lst 9 .sh (l.map V.str)
theorem AOw {g:Grf} (hl:g.es.length<1000000) {j:Job} {N:Nat} (hg:DC g j (N:Int)=true) {rs:List (List UInt8)} (h12:rs.length≤1000) (h300:∀r∈rs,r.length≤100000):∀(n i:Nat) (b:Bk),i+n=rs.length→BkN N b→
 U9 (sR rs) (.ref 0 [] 24) (.ref 1 [] 26) (.ref 2 [] 33) (.ref 3 [] 33) (sR rs) (.int .i64 (rs.length:Int)) (.int .i64 (i:Int)) [vG .sh g,vJ j,Ht,vB b]=
  some (.tup [vB (Di g j b (rs.drop i)).1,.int .i64 ((i+(Di g j b (rs.drop i)).2:Nat):Int),.int .i64 0],[]):=by
 intro n
 have pb:∀b:Bk,(vB b).pl=true:=fun b=>by simp only[V.pl,G5,Eb,Ec,Qr,Gt];rfl
 have ln:EU (sR rs)=some (.int .i64 (rs.length:Int)):=RD rs
 induction n with
 |zero=>
  intro i b hi hb
  have ls:AO .lss (.int .i64 (i:Int)) (.int .i64 (rs.length:Int))=some (.bool false):=by rw[b_lss,decide_eq_false (by omega)]
  rw[List.drop_eq_nil_of_le (by omega),Di,FI]
  have e:rs.length=i+0:=by omega
  rw[e]at ln ls⊢
  clear h300 hb e
  generalize sR rs=R at*
  simp(disch:=first|assumption|omega|(with_reducible rfl)|(simp only[go_sem];done)|(simp only[go_sem];omega)|fail) only[↓reduceIte,↓AL,Nat.reduceAdd,go_sem,ls,ln]
 |succ n ih=>
  intro i b hi hb
  have h:i<rs.length:=by omega
  have ls:AO .lss (.int .i64 (i:Int)) (.int .i64 (rs.length:Int))=some (.bool true):=by rw[b_lss,decide_eq_true (by omega)]
  have ix:ET 9 (sR rs) (.int .i64 (i:Int))=some (.rop 9 (.str rs[i])):=Ye (f:= .sh) (Oi h)
  have ap:=AAG hl hg hb (h300 _ (List.getElem_mem h))
  have ad:AO .add (.int .i64 (i:Int)) (.int .i64 1)=some (.int .i64 ((i+1:Nat):Int)):=by rw[Dt,wrap_i64 (by omega) (by omega)];rfl
  rw[List.drop_eq_getElem_cons h]
  cases ha:Ub g j b rs[i]with
  |none=>
   rw[ha]at ap
   have ne:AO .neq (.int .i64 171) (.int .i64 0)=some (.bool true):=rfl
   rw[RF ha,FI]
   simp only[ZH,Option.getD_none,Option.isSome_none,Bool.false_eq_true,if_false]at ap
   simp only[Nat.add_zero]
   clear h300 hb ha ih
   generalize rs[i]=r at*
   generalize hz:zB=z at*
   generalize sR rs=R at*
   simp(disch:=first|assumption|omega|(with_reducible rfl)|(simp only[go_sem];done)|(simp only[go_sem];omega)|fail) only[↓reduceIte,↓AL,Nat.reduceAdd,go_sem,ls,ix,ap,ne]
  |some c=>
   rw[ha]at ap
   have ne:AO .neq (.int .i64 0) (.int .i64 0)=some (.bool false):=rfl
   have ih':=ih (i+1) c (by omega) (AH3 hg hb ha).1
   have un:∀a b c d e f,Ac 4 [sR rs,.ref 0 [] a,.ref 1 [] b,.ref 2 [] c,.ref 3 [] d,sR rs,.int .i64 e,.int .i64 f]=true:=fun a b c d e f=>rfl
   rw[RG ha,show i+((Di g j c (rs.drop (i+1))).2+1)=i+1+(Di g j c (rs.drop (i+1))).2 by omega]
   show _=some (V.tup [vB (Di g j c (rs.drop (i+1))).1,_,_],_)
   rw[←ih',FI]
   simp only[ZH,Option.getD_some,Option.isSome_some,if_true]at ap
   clear h300 hb ha ih ih'
   generalize rs[i]=r at*
   generalize (i+1:Nat)=i2 at*
   generalize sR rs=R at*
   simp(disch:=first|assumption|omega|(with_reducible rfl)|(simp only[go_sem];done)|(simp only[go_sem];omega)|fail) only[↓reduceIte,↓AL,Nat.reduceAdd,go_sem,ls,ix,ap,ne,ad,un]
theorem RH {g:Grf} (hl:g.es.length<1000000) {j:Job} {N:Nat} (hg:DC g j (N:Int)=true) {rs:List (List UInt8)} (h12:rs.length≤1000) (h300:∀r∈rs,r.length≤100000):
 Cl 28 [vG .sh g,vJ j,.int .i64 (N:Int),sR rs] []=some (.tup [vB (Di g j (Bd g j N) rs).1,.int .i64 ((Di g j (Bd g j N) rs).2:Int),.int .i64 0],[]):=by
 have lp:=AOw hl hg h12 h300 rs.length 0 (Bd g j N) (by omega) (AH4 hg)
 rw[List.drop_zero,Nat.zero_add]at lp
 have nw:=MO hl j (N:Int)
 rw[if_pos hg,Int.toNat_natCast]at nw
 have ln:EU (sR rs)=some (.int .i64 (rs.length:Int)):=RD rs
 have ws:(sR rs).weak=sR rs:=rfl
 rw[←lp,ZP]
 clear lp h300
 generalize Bd g j N=b at*
 generalize sR rs=R at*
 simp(disch:=first|assumption|omega|(with_reducible rfl)|(simp only[go_sem];done)|(simp only[go_sem];omega)|fail) only[↓reduceIte,↓AL,Nat.reduceAdd,go_sem,nw,ln,ws]
 rfl
theorem Yg {g:Grf} (hl:g.es.length<1000000) {j:Job} {w:Int} (hg:¬DC g j w=true) {rs:List (List UInt8)}:
 Cl 28 [vG .sh g,vJ j,.int .i64 w,sR rs] []=some (.tup [vB zB,.int .i64 0,.int .i64 170],[]):=by
 have nw:=MO hl j w
 rw[if_neg hg]at nw
 have ne:AO .neq (.int .i64 170) (.int .i64 0)=some (.bool true):=rfl
 rw[ZP]
 simp only[zB,List.map_nil]at nw⊢
 generalize sR rs=R at*
 simp(disch:=first|assumption|omega|(with_reducible rfl)|(simp only[go_sem];done)|(simp only[go_sem];omega)|fail) only[↓reduceIte,↓AL,Nat.reduceAdd,go_sem,nw,ne]
 rfl
end
section
open Go AM
def gn:List Bool→List Bool→Nat
 |c::cs,d::ds=>(if c=false∧d=true then 1 else 0)+gn cs ds
 |_,_=>0
theorem WB:∀l:List Bool,gn l l=0
 |[]=>rfl
 |c::cs=>by cases c<;>simp[gn,WB cs]
theorem AH5:∀(l:List Bool) (w:Nat),l[w]?=some false→gn l (l.set w true)=1
 |[],w,h=>by simp at h
 |c::cs,0,h=>by simp at h;subst h;simp[gn,WB]
 |c::cs,w+1,h=>by
  simp only[List.getElem?_cons_succ]at h
  rw[List.set_cons_succ,gn,AH5 cs w h]
  cases c<;>simp
theorem AEC {l:List Bool} {w i:Nat} (h:l[i]?=some true):(l.set w true)[i]?=some true:=by
 rw[List.getElem?_set]
 split
 ·rename_i e
  have:i<l.length:=by
   by_cases hh:i<l.length
   ·exact hh
   ·rw[List.getElem?_eq_none (by omega)]at h;cases h
  subst e;simp[this]
 ·exact h
structure Fol (b c:Bk):Prop where
 keeps:∀i:Nat,b.gone[i]?=some true→c.gone[i]?=some true
 fin:(gn b.gone c.gone=0∧c.step=b.step+1)∨(gn b.gone c.gone=1∧c.step=0)
theorem AK5 {b c:Bk} (h:Nxt b c):Fol b c:=by
 rcases h with⟨h1,h2⟩|⟨w,h1,h2,h3⟩
 ·exact⟨fun i hi=>by rw[h1];exact hi,Or.inl ⟨by rw[h1,WB],h2⟩⟩
 ·exact⟨fun i hi=>by rw[h2];exact AEC hi,Or.inr ⟨by rw[h2,AH5 _ _ h1],h3⟩⟩
theorem Yh {l:List Bool} {i:Nat} (h:i<l.length):ET 4 (.lst 4 .sh (l.map V.bool)) (.int .i64 (i:Int))=some (.rop 4 (.bool l[i])):=Ye (f:= .sh) (by simp[h])
section
variable {g:Grf} {j:Job} {N:Nat} {B c d:Bk} {rs:List (List UInt8)} {cut:Int}
theorem AOx (hN:N≤64) (hc:BkN N c) (hd:BkN N d) {n i m0:Nat} (hi:i<1000) (h0:m0=4) (hk:∀x:Nat,c.gone[x]?=some true→d.gone[x]?=some true):∀(m w k:Nat),w+m=N→k≤w→
 ((k+gn (c.gone.drop w) (d.gone.drop w)=0∧d.step=c.step+1)∨(k+gn (c.gone.drop w) (d.gone.drop w)=1∧d.step=0))→
 Wu (.int .i64 (N:Int)) (sR rs) (.int .i64 cut) (.ref 0 [] 24) (.ref 1 [] 26) (.ref 2 [] 33) (.int .i64 (n:Int)) (.int .i64 0) (.ref 3 [] 33) (.int .i64 (i:Int)) (.ref 4 [] 33) (.int .i64 (k:Int)) (.int .i64 (w:Int)) m0 [vG .sh g,vJ j,vB B,vB c,vB d]=
  Sz (.int .i64 (N:Int)) (sR rs) (.int .i64 cut) (.ref 0 [] 24) (.ref 1 [] 26) (.ref 2 [] 33) (.int .i64 (n:Int)) (.int .i64 0) (.ref 3 [] 33) (.int .i64 ((i+1:Nat):Int)) [vG .sh g,vJ j,vB B,vB d]:=by
 subst h0
 have hcg:=hc.gone
 have hdg:=hd.gone
 intro m
 induction m with
 |zero=>
  intro w k hw hkw hf
  have ls:AO .lss (.int .i64 (w:Int)) (.int .i64 (N:Int))=some (.bool false):=by rw[b_lss,decide_eq_false (by omega)]
  have ad:AO .add (.int .i64 (i:Int)) (.int .i64 1)=some (.int .i64 ((i+1:Nat):Int)):=by rw[Dt,wrap_i64 (by omega) (by omega)];rfl
  have un:∀z,Ac 4 [.int .i64 (N:Int),sR rs,.int .i64 cut,.ref 0 [] 24,.ref 1 [] 26,.ref 2 [] 33,.int .i64 (n:Int),.int .i64 0,.ref 3 [] 33,.int .i64 z]=true:=fun z=>rfl
  have pb:=AOt d
  have e0:gn (c.gone.drop w) (d.gone.drop w)=0:=by rw[List.drop_eq_nil_of_le (by omega)];simp[gn]
  have sc:=hc.step
  have sd:=hd.step
  rw[Wv]
  rcases hf with⟨f1,f2⟩|⟨f1,f2⟩
  ·obtain rfl:k=0:=by omega
   have q1:AO .gtr (.int .i64 ((0:Nat):Int)) (.int .i64 1)=some (.bool false):=rfl
   have q2:AO .eql (.int .i64 ((0:Nat):Int)) (.int .i64 1)=some (.bool false):=rfl
   have q3:AO .eql (.int .i64 ((0:Nat):Int)) (.int .i64 0)=some (.bool true):=rfl
   have q4:AO .add (.int .i64 c.step) (.int .i64 1)=some (.int .i64 d.step):=by rw[Dt,wrap_i64 (by omega) (by omega),f2]
   have q5:AO .neq (.int .i64 d.step) (.int .i64 d.step)=some (.bool false):=by rw[b_neq];simp
   clear f1 f2 e0 hk hc hd sc sd hcg hdg
   generalize (i+1:Nat)=i2 at*
   generalize hR:sR rs=R at*
   simp(disch:=first|assumption|omega|(with_reducible rfl)|(simp only[go_sem];done)|(simp only[go_sem];omega)|fail) only[↓reduceIte,↓AL,Nat.reduceAdd,go_sem,ls,ad,un,q1,q2,q3,q4,q5]
  ·obtain rfl:k=1:=by omega
   have q1:AO .gtr (.int .i64 ((1:Nat):Int)) (.int .i64 1)=some (.bool false):=rfl
   have q2:AO .eql (.int .i64 ((1:Nat):Int)) (.int .i64 1)=some (.bool true):=rfl
   have q3:AO .eql (.int .i64 ((1:Nat):Int)) (.int .i64 0)=some (.bool false):=rfl
   have q5:AO .neq (.int .i64 d.step) (.int .i64 0)=some (.bool false):=by rw[b_neq,f2];rfl
   clear f1 f2 e0 hk hc hd sc sd hcg hdg
   generalize (i+1:Nat)=i2 at*
   generalize hR:sR rs=R at*
   simp(disch:=first|assumption|omega|(with_reducible rfl)|(simp only[go_sem];done)|(simp only[go_sem];omega)|fail) only[↓reduceIte,↓AL,Nat.reduceAdd,go_sem,ls,ad,un,q1,q2,q3,q5]
 |succ m ih=>
  intro w k hw hkw hf
  have h1:w<c.gone.length:=by omega
  have h2:w<d.gone.length:=by omega
  have ls:AO .lss (.int .i64 (w:Int)) (.int .i64 (N:Int))=some (.bool true):=by rw[b_lss,decide_eq_true (by omega)]
  have ad:AO .add (.int .i64 (w:Int)) (.int .i64 1)=some (.int .i64 ((w+1:Nat):Int)):=by rw[Dt,wrap_i64 (by omega) (by omega)];rfl
  have ad2:AO .add (.int .i64 (k:Int)) (.int .i64 1)=some (.int .i64 ((k+1:Nat):Int)):=by rw[Dt,wrap_i64 (by omega) (by omega)];rfl
  have x1:=Yh h1
  have x2:=Yh h2
  have kw:c.gone[w]=true→d.gone[w]=true:=fun h=>by
   have:=hk w (by rw[List.getElem?_eq_getElem h1,h])
   rw[List.getElem?_eq_getElem h2]at this
   exact Option.some.inj this
  rw[List.drop_eq_getElem_cons h1,List.drop_eq_getElem_cons h2,gn]at hf
  rw[Wv]
  cases e1:c.gone[w]with
  |true=>
   have e2:=kw e1
   rw[e1]at x1
   rw[e2]at x2
   rw[e1,e2,if_neg (by simp)]at hf
   rw[←ih (w+1) k (by omega) (by omega) (by simpa using hf)]
   clear ih hf hk hc hd kw e1 e2
   generalize (w+1:Nat)=w2 at*
   generalize hR:sR rs=R at*
   simp(disch:=first|assumption|omega|(with_reducible rfl)|(simp only[go_sem];done)|(simp only[go_sem];omega)|fail) only[↓reduceIte,↓AL,Nat.reduceAdd,go_sem,ls,ad,x1,x2]
  |false=>
   rw[e1]at x1
   cases e2:d.gone[w]with
   |true=>
    rw[e2]at x2
    rw[e1,e2,if_pos ⟨rfl,rfl⟩]at hf
    rw[←ih (w+1) (k+1) (by omega) (by omega) (by simpa [Nat.add_assoc]using hf)]
    clear ih hf hk hc hd kw e1 e2
    generalize (w+1:Nat)=w2 at*
    generalize (k+1:Nat)=k2 at*
    generalize hR:sR rs=R at*
    simp(disch:=first|assumption|omega|(with_reducible rfl)|(simp only[go_sem];done)|(simp only[go_sem];omega)|fail) only[↓reduceIte,↓AL,Nat.reduceAdd,go_sem,ls,ad,ad2,x1,x2]
   |false=>
    rw[e2]at x2
    rw[e1,e2,if_neg (by simp)]at hf
    rw[←ih (w+1) k (by omega) (by omega) (by simpa using hf)]
    clear ih hf hk hc hd kw e1 e2
    generalize (w+1:Nat)=w2 at*
    generalize hR:sR rs=R at*
    simp(disch:=first|assumption|omega|(with_reducible rfl)|(simp only[go_sem];done)|(simp only[go_sem];omega)|fail) only[↓reduceIte,↓AL,Nat.reduceAdd,go_sem,ls,ad,x1,x2]
end
end
section
open Go AM
abbrev RI:V:= .agg JW [.int .i64 0,.lst 4 .nil [],.lst 55 .nil [],.lst 58 .nil [],.lst 108 .nil []]
theorem ARR (h0 h1 h2 h3 h4 h5 h6 h7 h8 h9 h10 x0 x2 x3 x4:V) (k:List V→Rv):
 UU 80 (.lst 4 .sh ([false,false].map V.bool)) (.ref 11 [] 33) (.int .u64 1) 33 1 28 4 true [h0,h1,h2,h3,h4,h5,h6,h7,h8,h9,h10,.agg JW [x0,.lst 4 .sh ([false,false].map V.bool),x2,x3,x4]] k=
  k [h0,h1,h2,h3,h4,h5,h6,h7,h8,h9,h10,.agg JW [x0,.lst 4 .own ([false,true].map V.bool),x2,x3,x4]]:=ATe ..
theorem ATi (r0 r1 p0 p1:List UInt8) (k0 k1 q0 q1:List (List UInt8)) (hN:Cl 10 [vG .sh g0,vJ j0,.int .i64 2] []=some (.tup [vB (Dw false p0 p1 q0 q1),.int .i64 0],[])):
 Cl 57 [vG .sh g0,vJ j0,vB (Dw false r0 r1 k0 k1),CP 5] [vG .sh g0,vJ j0,vB (Dw false r0 r1 k0 k1),ZG,vB (Dw false p0 p1 q0 q1),BA [1] 0,ZG]=
  some (.tup [vB (Dw true p0 p1 q0 q1),.bool true],[vG .sh g0,vJ j0,vB (Dw false r0 r1 k0 k1),ZG,vB (Dw false p0 p1 q0 q1),BA [] 0,ZG]):=by
 have n55:Cl 55 [CP 5] [vG .sh g0,vJ j0,vB (Dw false r0 r1 k0 k1),ZG,vB (Dw false p0 p1 q0 q1),BA [1] 0,ZG,vG .sh g0,vJ j0,vB (Dw false r0 r1 k0 k1),RI]=some (.int .u64 1,[vG .sh g0,vJ j0,vB (Dw false r0 r1 k0 k1),ZG,vB (Dw false p0 p1 q0 q1),BA [] 0,ZG,vG .sh g0,vJ j0,vB (Dw false r0 r1 k0 k1),RI]):=DF.2 ⟨60,by kernel_rfl⟩
 have n86:Cl 86 [CP 5] [vG .sh g0,vJ j0,vB (Dw false r0 r1 k0 k1),ZG,vB (Dw false p0 p1 q0 q1),BA [] 0,ZG,vG .sh g0,vJ j0,vB (Dw false r0 r1 k0 k1),RI]=some (.int .i64 0,[vG .sh g0,vJ j0,vB (Dw false r0 r1 k0 k1),ZG,vB (Dw false p0 p1 q0 q1),BA [] 0,ZG,vG .sh g0,vJ j0,vB (Dw false r0 r1 k0 k1),RI]):=DF.2 ⟨60,by kernel_rfl⟩
 rw[Qx]
 simp only[Dw,List.map_cons,List.map_nil,zB]at n55 n86 hN⊢
 have hN':Cl 10 [vG .sh g0,vJ j0,.int .i64 ((2:Nat):Int)] []=_:=hN
 have hx:([false,false].map V.bool)[1]?=some (.bool false):=rfl
 simp(disch:=first|assumption|omega|(with_reducible rfl)|(simp only[go_sem];done)|(simp only[go_sem];omega)|fail) only[↓reduceIte,↓AL,Nat.reduceAdd,go_sem,n55,n86,hN',hx]
 refine(ARR _ _ _ _ _ _ _ _ _ _ _ _ _ _ _ _).trans ?_
 rfl
end
section
open Go AM
theorem AMD (r0 r1 p0 p1:List UInt8) (k0 k1 q0 q1:List (List UInt8)) (hN:Cl 10 [vG .sh g0,vJ j0,.int .i64 2] []=some (.tup [vB (Dw false p0 p1 q0 q1),.int .i64 0],[])):
 Cl 23 [vG .sh g0,vJ j0,vB (Dw false r0 r1 k0 k1),.str [69,1]] []=some (.tup [vB (Dw true p0 p1 q0 q1),.int .i64 0],[]):=by
 have n54:=FU [vG .sh g0,vJ j0,vB (Dw false r0 r1 k0 k1),RI,vB (Dw false p0 p1 q0 q1)] [69,1]
 have n55:Cl 55 [CP 5] [vG .sh g0,vJ j0,vB (Dw false r0 r1 k0 k1),RI,vB (Dw false p0 p1 q0 q1),BA [69,1] 0,RI]=some (.int .u64 69,[vG .sh g0,vJ j0,vB (Dw false r0 r1 k0 k1),RI,vB (Dw false p0 p1 q0 q1),BA [1] 0,RI]):=DF.2 ⟨60,by kernel_rfl⟩
 have n57:Cl 57 [vG .sh g0,vJ j0,vB (Dw false r0 r1 k0 k1),CP 5] [vG .sh g0,vJ j0,vB (Dw false r0 r1 k0 k1),RI,vB (Dw false p0 p1 q0 q1),BA [1] 0,RI]=_:=ATi r0 r1 p0 p1 k0 k1 q0 q1 hN
 rw[L6]
 simp only[Dw,zB]at n54 n55 n57 hN⊢
 have hN':Cl 10 [vG .sh g0,vJ j0,.int .i64 ((2:Nat):Int)] []=_:=hN
 simp(disch:=first|assumption|omega|(with_reducible rfl)|(simp only[go_sem];done)|(simp only[go_sem];omega)|fail) only[↓reduceIte,↓AL,Nat.reduceAdd,go_sem,n54,n55,n57,hN']
end
section
open Go AM
theorem AME (g1:Bool) (r0 r1 p0 p1:List UInt8) (k0 k1 q0 q1:List (List UInt8)) (hN:Cl 10 [vG .sh g0,vJ j0,.int .i64 2] []=some (.tup [vB (Dw false p0 p1 q0 q1),.int .i64 0],[])):
 Cl 23 [vG .sh g0,vJ j0,vB (Dw g1 r0 r1 k0 k1),.str Qy] []=some (.tup [vB (bk1 g1),.int .i64 0],[]):=by
 have n54:=FU [vG .sh g0,vJ j0,vB (Dw g1 r0 r1 k0 k1),RI,vB (Dw false p0 p1 q0 q1)] Qy
 have n55:Cl 55 [CP 5] [vG .sh g0,vJ j0,vB (Dw g1 r0 r1 k0 k1),RI,vB (Dw false p0 p1 q0 q1),BA Qy 0,RI]=some (.int .u64 65,[vG .sh g0,vJ j0,vB (Dw g1 r0 r1 k0 k1),RI,vB (Dw false p0 p1 q0 q1),BA Qy.tail 0,RI]):=DF.2 ⟨60,by kernel_rfl⟩
 have n56:Cl 56 [vJ j0,vB (Dw g1 r0 r1 k0 k1),CP 5] [vG .sh g0,vJ j0,vB (Dw g1 r0 r1 k0 k1),RI,vB (Dw false p0 p1 q0 q1),BA Qy.tail 0,RI]=_:=ATc g1 r0 r1 p0 p1 k0 k1 q0 q1
 rw[L6]
 generalize Qy=acc at*
 generalize bk1 g1=b1 at*
 simp only[Dw,zB]at n54 n55 n56 hN⊢
 have hN':Cl 10 [vG .sh g0,vJ j0,.int .i64 ((2:Nat):Int)] []=_:=hN
 simp(disch:=first|assumption|omega|(with_reducible rfl)|(simp only[go_sem];done)|(simp only[go_sem];omega)|fail) only[↓reduceIte,↓AL,Nat.reduceAdd,go_sem,n54,n55,n56,hN']
theorem ARS (p0 p1:List UInt8) (q0 q1:List (List UInt8)) (hN:Cl 10 [vG .sh g0,vJ j0,.int .i64 2] []=some (.tup [vB (Dw false p0 p1 q0 q1),.int .i64 0],[])):
 Cl 23 [vG .sh g0,vJ j0,vB (bk1 true),.str [120]] []=some (.tup [vB zB,.int .i64 171],[]):=by
 have n54:=FU [vG .sh g0,vJ j0,vB (bk1 true),RI,vB (Dw false p0 p1 q0 q1)] [120]
 have n55:Cl 55 [CP 5] [vG .sh g0,vJ j0,vB (bk1 true),RI,vB (Dw false p0 p1 q0 q1),BA [120] 0,RI]=some (.int .u64 120,[vG .sh g0,vJ j0,vB (bk1 true),RI,vB (Dw false p0 p1 q0 q1),BA [] 0,RI]):=DF.2 ⟨60,by kernel_rfl⟩
 rw[L6]
 generalize List.replicate 32 (0:UInt8)=JI at*
 simp only[Dw,bk1,zB]at n54 n55 hN⊢
 have hN':Cl 10 [vG .sh g0,vJ j0,.int .i64 ((2:Nat):Int)] []=_:=hN
 simp(disch:=first|assumption|omega|(with_reducible rfl)|(simp only[go_sem];done)|(simp only[go_sem];omega)|fail) only[↓reduceIte,↓AL,Nat.reduceAdd,go_sem,n54,n55,hN']
 rfl
end
section
open Go AM
theorem ART (p0 p1:List UInt8) (q0 q1:List (List UInt8)) (hN:Cl 10 [vG .sh g0,vJ j0,.int .i64 2] []=some (.tup [vB (Dw false p0 p1 q0 q1),.int .i64 0],[])):
 Cl 28 [vG .sh g0,vJ j0,.int .i64 2,.lst 9 .sh [.str [69,1],.str Qy,.str [120]]] []=some (.tup [vB (bk1 true),.int .i64 2,.int .i64 0],[]):=by
 have a1:=AMD p0 p1 p0 p1 q0 q1 q0 q1 hN
 have a2:=AME true p0 p1 p0 p1 q0 q1 q0 q1 hN
 have a3:=ARS p0 p1 q0 q1 hN
 rw[ZP]
 generalize Qy=acc at*
 generalize bk1 true=b3 at*
 generalize Dw true p0 p1 q0 q1=b2 at*
 generalize Dw false p0 p1 q0 q1=b1 at*
 have ix1:∀a b c:V,ET 9 (.lst 9 .sh [a,b,c]) (.int .i64 (0+1))=some (.rop 9 b):=fun _ _ _=>rfl
 have ix2:∀a b c:V,ET 9 (.lst 9 .sh [a,b,c]) (.int .i64 (0+1+1))=some (.rop 9 c):=fun _ _ _=>rfl
 simp(disch:=first|assumption|omega|(with_reducible rfl)|(simp only[go_sem];done)|(simp only[go_sem];omega)|fail) only[↓reduceIte,↓AL,Nat.reduceAdd,go_sem,hN]
 rw[FI]
 simp(disch:=first|assumption|omega|(with_reducible rfl)|(simp only[go_sem];done)|(simp only[go_sem];omega)|fail) only[↓reduceIte,↓AL,Nat.reduceAdd,go_sem,a1]
 rw[FI]
 simp(disch:=first|assumption|omega|(with_reducible rfl)|(simp only[go_sem];done)|(simp only[go_sem];omega)|fail) only[↓reduceIte,↓AL,Nat.reduceAdd,go_sem,a2,ix1]
 rw[FI]
 simp(disch:=first|assumption|omega|(with_reducible rfl)|(simp only[go_sem];done)|(simp only[go_sem];omega)|fail) only[↓reduceIte,↓AL,Nat.reduceAdd,go_sem,a3,ix2]
 rfl
end
section
open Go AM
set_option maxHeartbeats 4000000 in
theorem AK6:Cl 9 [] []=some (.bool true,[]):=by
 obtain⟨p0,p1,q0,q1,hnb⟩:=nb0
 have hN:Cl 10 [vG .sh g0,vJ j0,.int .i64 2] []=some (.tup [vB (Dw false p0 p1 q0 q1),.int .i64 0],[]):=by
  have h:=MO (g:=g0) (by simp[g0]) j0 2
  rw[if_pos AQ8]at h
  rw[h,←hnb];rfl
 have e1:Cl 20 [vB (Dw false p0 p1 q0 q1),.int .i64 1] []=_:=ATa p0 p1 q0 q1
 have e2:Cl 17 [vB (Dw false p0 p1 q0 q1),.lst 60 .sh [zVd,zVd]] []=_:=ATb p0 p1 q0 q1
 have a1:=AMD p0 p1 p0 p1 q0 q1 q0 q1 hN
 have a2:=AME false p0 p1 p0 p1 q0 q1 q0 q1 hN
 have rc:=ART p0 p1 q0 q1 hN
 have mk:mkL 60 zVd (.int .i64 2) (.int .i64 2)=some (.lst 60 .own [zVd,zVd]):=rfl
 rw[APp]
 rw[show mkL 60 _ (.int .i64 2) (.int .i64 2)=some (.lst 60 .own [zVd,zVd])from mk]
 have ry:∀h,V.reify h (.lst 60 .own [zVd,zVd])= .lst 60 .sh [zVd,zVd]:=fun _=>rfl
 generalize Qy=acc at*
 generalize zVd=z at*
 simp only[vG,vJ,g0,j0,List.map_nil]at hN a1 a2 rc
 have d1:((Dw false p0 p1 q0 q1).gone.length:Int)=2:=rfl
 have d2:(Dw true p0 p1 q0 q1).step=0:=rfl
 have d3:(bk1 false).step=1:=rfl
 have d4:(bk1 true).step=1:=rfl
 have x1:ET 4 (.lst 4 .sh ((Dw true p0 p1 q0 q1).gone.map V.bool)) (.int .i64 1)=some (.rop 4 (.bool true)):=rfl
 have x2:ET 4 (.lst 4 .sh ((Dw true p0 p1 q0 q1).gone.map V.bool)) (.int .i64 0)=some (.rop 4 (.bool false)):=rfl
 have x3:ET 4 (.lst 4 .sh ((bk1 true).gone.map V.bool)) (.int .i64 1)=some (.rop 4 (.bool true)):=rfl
 (repeat' with_reducible first|refine(CW _ _).trans ?_|refine(CY _ _).trans ?_|refine(AL _ _).trans ?_|((first|(refine' (AB ?_ _).trans ?_;rotate_left)|refine(if_pos ?_).trans ?_|refine(BH ?_ _ _).trans ?_);focus (first|rfl|(simp(disch:=first|assumption|omega|with_reducible rfl|(simp only[go_sem]<;>omega)|fail) only[↓reduceIte,↓AL,Nat.reduceAdd,go_sem,Bool.not_true,Bool.not_false,hN,e1,e2,a1,a2,rc,mk,ry,x1,x2,x3]<;>first|rfl|omega)|assumption|omega))|(refine(Az ?_ _ _).trans ?_;focus (first|(simp(disch:=first|assumption|omega|with_reducible rfl|(simp only[go_sem]<;>omega)|fail) only[↓reduceIte,↓AL,Nat.reduceAdd,go_sem,Bool.not_true,Bool.not_false,hN,e1,e2,a1,a2,rc,mk,ry,x1,x2,x3]<;>omega)|assumption|omega))|fail)
 rfl
end
section
open Go AM
theorem AOy (a b:Int):WY (.int .i64 a) (.int .i64 b)=some (.int .i64 (max a b)):=by
 simp only[WY,if_true];congr 2;split<;>omega
theorem AH6 (a b:Int):Lr (.int .i64 a) (.int .i64 b)=some (.int .i64 (min a b)):=by
 simp only[Lr,if_true];congr 2;split<;>omega
theorem AOz {g:Grf} {j:Job} {b:Bk} {l:List (List UInt8)} (h:(Di g j b l).2=0):(Di g j b l).1=b∧∀r∈l.head?,Ub g j b r=none:=by
 cases l with
 |nil=>exact⟨rfl,by simp⟩
 |cons r rs=>
  cases ha:Ub g j b r with
  |none=>rw[RF ha];exact⟨rfl,by simpa using ha⟩
  |some c=>rw[RG ha]at h;simp at h
theorem ARU {N:Nat} {b:Bk} (hb:BkN N b):Cl 13 [vB b,vB b] []=some (.bool true,[]):=
 UR hb.ok (by have:=hb.sent;rw[AAE (by omega) (by omega)];simp)
section
variable {g:Grf} {j:Job} {N:Nat} {B c:Bk} {rs:List (List UInt8)} {cut:Int}
set_option maxHeartbeats 2000000 in
theorem AK7 (hl:g.es.length<1000000) (hN:N≤64) (hg:DC g j (N:Int)=true) (h12:rs.length≤1000) (h300:∀r∈rs,r.length≤100000) (hc:BkN N c) {n:Nat} (hn:n≤rs.length) (hnr:n=(Di g j (Bd g j N) rs).2) (hcl:∀r∈(rs.drop n).head?,Ub g j c r=none):
 Sz (.int .i64 (N:Int)) (sR rs) (.int .i64 cut) (.ref 0 [] 24) (.ref 1 [] 26) (.ref 2 [] 33) (.int .i64 (n:Int)) (.int .i64 0) (.ref 3 [] 33) (.int .i64 (n:Int)) [vG .sh g,vJ j,vB c,vB c]=some (.bool true,[]):=by
 have ls:AO .lss (.int .i64 (n:Int)) (.int .i64 (n:Int))=some (.bool false):=by rw[b_lss,decide_eq_false (by omega)]
 have e0:AO .neq (.int .i64 0) (.int .i64 0)=some (.bool false):=rfl
 have sm:=ARU hc
 have ln:EU (sR rs)=some (.int .i64 (rs.length:Int)):=RD rs
 have ws:(sR rs).weak=sR rs:=rfl
 have ow:=Qw hl
 have o7:=Yc hc.ok
 obtain⟨K,hK⟩:∃K:Nat,(K:Int)=min (max cut 0) (rs.length:Int):=⟨(min (max cut 0) (rs.length:Int)).toNat,by omega⟩
 have mx:WY (.int .i64 cut) (.int .i64 0)=some (.int .i64 (max cut 0)):=AOy ..
 have mn:Lr (.int .i64 (max cut 0)) (.int .i64 (rs.length:Int))=some (.int .i64 (K:Int)):=by rw[hK,AH6]
 have mn2:Lr (.int .i64 (n:Int)) (.int .i64 (K:Int))=some (.int .i64 ((min n K:Nat):Int)):=by
  rw[show((min n K:Nat):Int)=min (n:Int) (K:Int)by omega,AH6]
 have eK:AO .eql (.int .i64 ((min n K:Nat):Int)) (.int .i64 ((min n K:Nat):Int))=some (.bool true):=by rw[b_eql];simp
 have sl:slL 9 (sR rs) none (some (.int .i64 (K:Int))) none=some (sR (rs.take K)):=by rw[AOF (by simp;omega),←List.map_take];rfl
 have ap:∀h:List V,Gi 9 AM.tyS false h (.lst 9 .own []) (sR (rs.take K))=some (.lst 9 .own ((rs.take K).map V.str)):=fun h=>by
  rw[EO (V.PFL _ (IX (rs.take K))).clean (all_map (fun _=>rfl) _) (by simp;omega),List.nil_append];rfl
 have rc:=RH hl hg (rs:=rs.take K) (by simp;omega) (fun r hr=>h300 r (List.mem_of_mem_take hr))
 rw[Uc,←hnr]at rc
 have lw1:DY true [vG .sh g]=true:=rfl
 have lw2:DY true [vB c]=true:=rfl
 have lw3:∀s,DY true [vG .sh g,vJ j,vB c,.str s]=true:=fun _=>rfl
 have lw4:DY true [.lst 9 .own [],sR (rs.take K)]=true:=rfl
 have lw5:∀x s,DY true [vG .sh g,vJ j,.int .i64 x,.lst 9 .own s]=true:=fun _ _=>rfl
 have rf:∀h,AA h [vG .sh g,vJ j,.int .i64 (N:Int),.lst 9 .own ((rs.take K).map V.str)]=[vG .sh g,vJ j,.int .i64 (N:Int),sR (rs.take K)]:=fun h=>by
  have pg:(vG .sh g).pl=true:=by simp only[go_sem]
  simp only[AA,(V.PF _ pg).reify];rfl
 have q171:AO .neq (.int .i64 171) (.int .i64 171)=some (.bool false):=rfl
 have q0:AO .eql (.int .i64 0) (.int .i64 0)=some (.bool true):=rfl
 have hap:n<rs.length→Cl 23 [vG .sh g,vJ j,vB c,.str (rs[n]?.getD [])] []=some (.tup [vB zB,.int .i64 171],[])∧ET 9 (sR rs) (.int .i64 (n:Int))=some (.rop 9 (.str (rs[n]?.getD []))):=fun h=>by
  have hx:rs[n]?.getD []=rs[n]:=by rw[List.getElem?_eq_getElem h];rfl
  have ha:Ub g j c rs[n]=none:=hcl _ (by rw[List.drop_eq_getElem_cons h];simp)
  have:=AAG hl hg hc (h300 _ (List.getElem_mem h))
  rw[ha]at this
  rw[hx]
  exact⟨this,Ye (f:= .sh) (Oi h)⟩
 generalize rs[n]?.getD []=r at*
 clear hcl h300 hc hnr hK
 generalize hk2:(min n K:Nat)=k2 at*
 generalize (Di g j (Bd g j N) (rs.take K)).1=b2 at*
 rw[Wx]
 by_cases hlt:n<rs.length
 ·obtain⟨a1,a2⟩:=hap hlt
  have l2:AO .lss (.int .i64 (n:Int)) (.int .i64 (rs.length:Int))=some (.bool true):=by rw[b_lss,decide_eq_true (by omega)]
  clear hap hlt hk2 hn
  generalize (rs.length:Int)=L at*
  generalize (max cut 0)=mc at*
  generalize (rs.take K).map V.str=TK at*
  generalize sR (rs.take K)=RK at*
  generalize sR rs=R at*
  (repeat' with_reducible first|refine(CW _ _).trans ?_|refine(CY _ _).trans ?_|refine(AL _ _).trans ?_|((first|(refine' (AB ?_ _).trans ?_;rotate_left)|refine(if_pos ?_).trans ?_|refine(BH ?_ _ _).trans ?_);focus (first|rfl|(simp(disch:=first|assumption|omega|with_reducible rfl|(simp only[go_sem]<;>omega)|fail) only[↓reduceIte,↓AL,Nat.reduceAdd,go_sem,Bool.not_true,Bool.not_false,ls,e0,sm,ln,ws,ow,o7,mx,mn,mn2,eK,sl,ap,rc,lw1,lw2,lw3,lw4,lw5,rf,q171,q0,a1,a2,l2]<;>first|rfl|omega)|assumption|omega))|(refine(Az ?_ _ _).trans ?_;focus (first|(simp(disch:=first|assumption|omega|with_reducible rfl|(simp only[go_sem]<;>omega)|fail) only[↓reduceIte,↓AL,Nat.reduceAdd,go_sem,Bool.not_true,Bool.not_false,ls,e0,sm,ln,ws,ow,o7,mx,mn,mn2,eK,sl,ap,rc,lw1,lw2,lw3,lw4,lw5,rf,q171,q0,a1,a2,l2]<;>omega)|assumption|omega))|fail)
  rfl
 ·have l2:AO .lss (.int .i64 (n:Int)) (.int .i64 (rs.length:Int))=some (.bool false):=by rw[b_lss,decide_eq_false (by omega)]
  clear hap hlt hk2 hn
  generalize (rs.length:Int)=L at*
  generalize (max cut 0)=mc at*
  generalize (rs.take K).map V.str=TK at*
  generalize sR (rs.take K)=RK at*
  generalize sR rs=R at*
  (repeat' with_reducible first|refine(CW _ _).trans ?_|refine(CY _ _).trans ?_|refine(AL _ _).trans ?_|((first|(refine' (AB ?_ _).trans ?_;rotate_left)|refine(if_pos ?_).trans ?_|refine(BH ?_ _ _).trans ?_);focus (first|rfl|(simp(disch:=first|assumption|omega|with_reducible rfl|(simp only[go_sem]<;>omega)|fail) only[↓reduceIte,↓AL,Nat.reduceAdd,go_sem,Bool.not_true,Bool.not_false,ls,e0,sm,ln,ws,ow,o7,mx,mn,mn2,eK,sl,ap,rc,lw1,lw2,lw3,lw4,lw5,rf,q171,q0,l2]<;>first|rfl|omega)|assumption|omega))|(refine(Az ?_ _ _).trans ?_;focus (first|(simp(disch:=first|assumption|omega|with_reducible rfl|(simp only[go_sem]<;>omega)|fail) only[↓reduceIte,↓AL,Nat.reduceAdd,go_sem,Bool.not_true,Bool.not_false,ls,e0,sm,ln,ws,ow,o7,mx,mn,mn2,eK,sl,ap,rc,lw1,lw2,lw3,lw4,lw5,rf,q171,q0,l2]<;>omega)|assumption|omega))|fail)
  rfl
set_option maxHeartbeats 2000000 in
theorem AO0 (hl:g.es.length<1000000) (hN:N≤64) (hg:DC g j (N:Int)=true) (h12:rs.length≤999) (h300:∀r∈rs,r.length≤100000) (hB:B=(Di g j (Bd g j N) rs).1) {n:Nat} (hnr:n=(Di g j (Bd g j N) rs).2):∀(m i:Nat) (c:Bk),i+m=n→BkN N c→Di g j c (rs.drop i)=(B,m)→
 Sz (.int .i64 (N:Int)) (sR rs) (.int .i64 cut) (.ref 0 [] 24) (.ref 1 [] 26) (.ref 2 [] 33) (.int .i64 (n:Int)) (.int .i64 0) (.ref 3 [] 33) (.int .i64 (i:Int)) [vG .sh g,vJ j,vB B,vB c]=some (.bool true,[]):=by
 have hn:n≤rs.length:=by rw[hnr];exact ADA ..
 intro m
 induction m with
 |zero=>
  intro i c hi hc hr
  obtain rfl:i=n:=by omega
  have:=AOz (g:=g) (j:=j) (b:=c) (l:=rs.drop i) (by rw[hr])
  rw[hr]at this
  obtain⟨e,hh⟩:=this
  obtain rfl:B=c:=e
  exact AK7 hl hN hg (by omega) h300 hc hn hnr hh
 |succ m ih=>
  intro i c hi hc hr
  have h:i<rs.length:=by omega
  rw[List.drop_eq_getElem_cons h]at hr
  cases ha:Ub g j c rs[i]with
  |none=>rw[RF ha]at hr;cases hr
  |some d=>
   rw[RG ha]at hr
   have hd:=AH3 hg hc ha
   have hfo:=AK5 hd.2
   have hr':Di g j d (rs.drop (i+1))=(B,m):=by
    have h1:=congrArg Prod.fst hr
    have h2:=congrArg Prod.snd hr
    simp only at h1 h2
    exact Prod.ext h1 (by simp only;omega)
   have lp:=AOx (g:=g) (j:=j) (B:=B) (rs:=rs) (cut:=cut) hN hc hd.1 (n:=n) (i:=i) (by omega) rfl hfo.keeps N 0 0 (by omega) (by omega) (by simpa using hfo.fin)
   rw[ih (i+1) d (by omega) hd.1 hr']at lp
   have ap:=AAG hl hg hc (h300 _ (List.getElem_mem h))
   rw[ha]at ap
   have ls:AO .lss (.int .i64 (i:Int)) (.int .i64 (n:Int))=some (.bool true):=by rw[b_lss,decide_eq_true (by omega)]
   have ge:AO .geq (.int .i64 (i:Int)) (.int .i64 (rs.length:Int))=some (.bool false):=by rw[b_geq,decide_eq_false (by omega)]
   have e0:AO .neq (.int .i64 0) (.int .i64 0)=some (.bool false):=rfl
   have ln:EU (sR rs)=some (.int .i64 (rs.length:Int)):=RD rs
   have ws:(sR rs).weak=sR rs:=rfl
   have ow:=Qw hl
   have o7:=Yc hc.ok
   have ix:ET 9 (sR rs) (.int .i64 (i:Int))=some (.rop 9 (.str rs[i])):=Ye (f:= .sh) (Oi h)
   have lw1:DY true [vG .sh g]=true:=rfl
   have lw2:DY true [vB c]=true:=rfl
   have lw3:∀s,DY true [vG .sh g,vJ j,vB c,.str s]=true:=fun _=>rfl
   simp only[ZH,Option.getD_some,Option.isSome_some,if_true]at ap
   rw[Wx,←lp]
   clear lp ih hr hr' hfo hd ha hc h300 hB
   generalize rs[i]=r at*
   generalize (rs.length:Int)=L at*
   generalize sR rs=R at*
   (repeat' with_reducible first|refine(CW _ _).trans ?_|refine(CY _ _).trans ?_|refine(AL _ _).trans ?_|((first|(refine' (AB ?_ _).trans ?_;rotate_left)|refine(if_pos ?_).trans ?_|refine(BH ?_ _ _).trans ?_);focus (first|rfl|(simp(disch:=first|assumption|omega|with_reducible rfl|(simp only[go_sem]<;>omega)|fail) only[↓reduceIte,↓AL,Nat.reduceAdd,go_sem,Bool.not_true,Bool.not_false,ls,ge,e0,ln,ws,ow,o7,ix,lw1,lw2,lw3,ap]<;>first|rfl|omega)|assumption|omega))|(refine(Az ?_ _ _).trans ?_;focus (first|(simp(disch:=first|assumption|omega|with_reducible rfl|(simp only[go_sem]<;>omega)|fail) only[↓reduceIte,↓AL,Nat.reduceAdd,go_sem,Bool.not_true,Bool.not_false,ls,ge,e0,ln,ws,ow,o7,ix,lw1,lw2,lw3,ap]<;>omega)|assumption|omega))|fail)
   rfl
set_option maxHeartbeats 2000000 in
theorem Ns (w:Int) (hlr:rs.length<9223372036854775808):Cl 6 [vG .sh g,vJ j,.int .i64 w,sR rs,.int .i64 cut] []=some (.bool true,[]):=by
 have hA:=AK6
 by_cases h1:40<g.es.length
 ·rw[S9]
  (repeat' with_reducible first|refine(CW _ _).trans ?_|refine(CY _ _).trans ?_|refine(AL _ _).trans ?_|((first|(refine' (AB ?_ _).trans ?_;rotate_left)|refine(if_pos ?_).trans ?_|refine(BH ?_ _ _).trans ?_);focus (first|rfl|(simp(disch:=first|assumption|omega|with_reducible rfl|(simp only[go_sem]<;>omega)|fail) only[↓reduceIte,↓AL,Nat.reduceAdd,go_sem,Bool.not_true,Bool.not_false,hA]<;>first|rfl|omega)|assumption|omega))|(refine(Az ?_ _ _).trans ?_;focus (first|(simp(disch:=first|assumption|omega|with_reducible rfl|(simp only[go_sem]<;>omega)|fail) only[↓reduceIte,↓AL,Nat.reduceAdd,go_sem,Bool.not_true,Bool.not_false,hA]<;>omega)|assumption|omega))|fail)
  rfl
 by_cases h2:12<g.n
 ·rw[S9]
  (repeat' with_reducible first|refine(CW _ _).trans ?_|refine(CY _ _).trans ?_|refine(AL _ _).trans ?_|((first|(refine' (AB ?_ _).trans ?_;rotate_left)|refine(if_pos ?_).trans ?_|refine(BH ?_ _ _).trans ?_);focus (first|rfl|(simp(disch:=first|assumption|omega|with_reducible rfl|(simp only[go_sem]<;>omega)|fail) only[↓reduceIte,↓AL,Nat.reduceAdd,go_sem,Bool.not_true,Bool.not_false,hA]<;>first|rfl|omega)|assumption|omega))|(refine(Az ?_ _ _).trans ?_;focus (first|(simp(disch:=first|assumption|omega|with_reducible rfl|(simp only[go_sem]<;>omega)|fail) only[↓reduceIte,↓AL,Nat.reduceAdd,go_sem,Bool.not_true,Bool.not_false,hA]<;>omega)|assumption|omega))|fail)
  rfl
 by_cases h3:8<w
 ·rw[S9]
  (repeat' with_reducible first|refine(CW _ _).trans ?_|refine(CY _ _).trans ?_|refine(AL _ _).trans ?_|((first|(refine' (AB ?_ _).trans ?_;rotate_left)|refine(if_pos ?_).trans ?_|refine(BH ?_ _ _).trans ?_);focus (first|rfl|(simp(disch:=first|assumption|omega|with_reducible rfl|(simp only[go_sem]<;>omega)|fail) only[↓reduceIte,↓AL,Nat.reduceAdd,go_sem,Bool.not_true,Bool.not_false,hA]<;>first|rfl|omega)|assumption|omega))|(refine(Az ?_ _ _).trans ?_;focus (first|(simp(disch:=first|assumption|omega|with_reducible rfl|(simp only[go_sem]<;>omega)|fail) only[↓reduceIte,↓AL,Nat.reduceAdd,go_sem,Bool.not_true,Bool.not_false,hA]<;>omega)|assumption|omega))|fail)
  rfl
 have fw:=AHw (l:=rs) hlr
 have ws:(sR rs).weak=sR rs:=rfl
 have rf1:∀h,AA h [sR rs]=[sS rs]:=fun h=>rfl
 have hl:g.es.length<1000000:=by omega
 have lw1:DY true [vG .sh g]=true:=rfl
 have lw4:DY true [.lst 9 .own [],sR rs]=true:=rfl
 have lw5:∀s,DY true [vG .sh g,vJ j,.int .i64 w,.lst 9 .own s]=true:=fun _=>rfl
 have ow:=Qw hl
 have rt:=ADx hl j w
 have pg:(vG .sh g).pl=true:=by simp only[go_sem]
 have rf:∀h,AA h [vG .sh g,vJ j,.int .i64 w,.lst 9 .own (rs.map V.str)]=[vG .sh g,vJ j,.int .i64 w,sR rs]:=fun h=>by
  simp only[AA,(V.PF _ pg).reify];rfl
 cases hfw:AC7 rs with
 |false=>
  rw[hfw]at fw
  rw[S9]
  clear rf lw4 hfw hlr
  simp only[sS]at fw rf1
  generalize sR rs=R at*
  (repeat' with_reducible first|refine(CW _ _).trans ?_|refine(CY _ _).trans ?_|refine(AL _ _).trans ?_|((first|(refine' (AB ?_ _).trans ?_;rotate_left)|refine(if_pos ?_).trans ?_|refine(BH ?_ _ _).trans ?_);focus (first|rfl|(simp(disch:=first|assumption|omega|with_reducible rfl|(simp only[go_sem]<;>omega)|fail) only[↓reduceIte,↓AL,Nat.reduceAdd,go_sem,Bool.not_true,Bool.not_false,hA,fw,ws,rf1]<;>first|rfl|omega)|assumption|omega))|(refine(Az ?_ _ _).trans ?_;focus (first|(simp(disch:=first|assumption|omega|with_reducible rfl|(simp only[go_sem]<;>omega)|fail) only[↓reduceIte,↓AL,Nat.reduceAdd,go_sem,Bool.not_true,Bool.not_false,hA,fw,ws,rf1]<;>omega)|assumption|omega))|fail)
  rfl
 |true=>
  rw[hfw]at fw
  simp only[AC7,Bool.and_eq_true,List.all_eq_true,decide_eq_true_eq]at hfw
  obtain⟨hw3,hw12⟩:=hfw
  have ap:∀h:List V,Gi 9 AM.tyS false h (.lst 9 .own []) (sR rs)=some (.lst 9 .own (rs.map V.str)):=fun h=>by
   rw[EO (V.PFL _ (IX rs)).clean (all_map (fun _=>rfl) _) (by simp;omega),List.nil_append];rfl
  have sz:Cl 13 [vB zB,.agg JW [.int .i64 0,.lst 4 .sh [],.lst 55 .sh [],.lst 58 .sh [],.lst 108 .sh []]] []=_:=UR AQ7 AKu
  by_cases hb:DC g j w=true
  ·have hb':=hb
   simp only[DC,Bool.and_eq_true,decide_eq_true_eq]at hb'
   obtain⟨hj,w1,w2⟩:=hb'
   obtain⟨N,rfl⟩:=Int.eq_ofNat_of_zero_le (show 0≤w by omega)
   have rc:=RH hl hb (rs:=rs) (by omega) (fun r hr=>by have:=hw3 r hr;omega)
   have rn:=AKt hb
   have lp:=AO0 (cut:=cut) hl (by omega) hb (by omega) (fun r hr=>by have:=hw3 r hr;omega) (B:=(Di g j (Bd g j N) rs).1) rfl (n:=(Di g j (Bd g j N) rs).2) rfl (Di g j (Bd g j N) rs).2 0 (Bd g j N) (by omega) (AH4 hb) (by rw[List.drop_zero])
   rw[hb]at rt
   simp only[c0]at lp
   clear hw3 hw12 hlr hb hj
   simp only[sS]at fw rf1
   generalize (Di g j (Bd g j N) rs).1=B at*
   generalize (Di g j (Bd g j N) rs).2=n at*
   generalize Bd g j N=nb at*
   generalize rs.map V.str=RL at*
   generalize sR rs=R at*
   rw[S9]
   (repeat' with_reducible first|refine(CW _ _).trans ?_|refine(CY _ _).trans ?_|refine(AL _ _).trans ?_|((first|(refine' (AB ?_ _).trans ?_;rotate_left)|refine(if_pos ?_).trans ?_|refine(BH ?_ _ _).trans ?_);focus (first|rfl|(simp(disch:=first|assumption|omega|with_reducible rfl|(simp only[go_sem]<;>omega)|fail) only[↓reduceIte,↓AL,Nat.reduceAdd,go_sem,Bool.not_true,Bool.not_false,hA,fw,ws,rf1,lw1,lw4,lw5,ow,rt,rf,ap,rc,rn]<;>first|rfl|omega)|assumption|omega))|(refine(Az ?_ _ _).trans ?_;focus (first|(simp(disch:=first|assumption|omega|with_reducible rfl|(simp only[go_sem]<;>omega)|fail) only[↓reduceIte,↓AL,Nat.reduceAdd,go_sem,Bool.not_true,Bool.not_false,hA,fw,ws,rf1,lw1,lw4,lw5,ow,rt,rf,ap,rc,rn]<;>omega)|assumption|omega))|fail)
   exact lp
  ·have rc:=Yg hl hb (rs:=rs)
   rw[Bool.not_eq_true]at hb
   rw[hb]at rt
   have q1:AO .eql (.int .i64 170) (.int .i64 170)=some (.bool true):=rfl
   have q2:AO .eql (.int .i64 0) (.int .i64 0)=some (.bool true):=rfl
   clear hw3 hw12 hlr hb
   simp only[sS]at fw rf1
   generalize rs.map V.str=RL at*
   generalize sR rs=R at*
   rw[S9]
   (repeat' with_reducible first|refine(CW _ _).trans ?_|refine(CY _ _).trans ?_|refine(AL _ _).trans ?_|((first|(refine' (AB ?_ _).trans ?_;rotate_left)|refine(if_pos ?_).trans ?_|refine(BH ?_ _ _).trans ?_);focus (first|rfl|(simp(disch:=first|assumption|omega|with_reducible rfl|(simp only[go_sem]<;>omega)|fail) only[↓reduceIte,↓AL,Nat.reduceAdd,go_sem,Bool.not_true,Bool.not_false,hA,fw,ws,rf1,lw1,lw4,lw5,ow,rt,rf,ap,rc,sz,q1,q2]<;>first|rfl|omega)|assumption|omega))|(refine(Az ?_ _ _).trans ?_;focus (first|(simp(disch:=first|assumption|omega|with_reducible rfl|(simp only[go_sem]<;>omega)|fail) only[↓reduceIte,↓AL,Nat.reduceAdd,go_sem,Bool.not_true,Bool.not_false,hA,fw,ws,rf1,lw1,lw4,lw5,ow,rt,rf,ap,rc,sz,q1,q2]<;>omega)|assumption|omega))|fail)
   rfl
end
end
end Go.Proofs.YtiegkempfolgcaaGreatDoor
