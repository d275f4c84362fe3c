/-
  Part of the proof of a statement about the given program: an abstract machine over its code, the simulation, its functions' equations, what they compute.
-/
import Derived.Below
import Derived.Laws.AppendOwn
import Derived.Test.YtkelgdjhpgefnaaGreatDoorMg17
import Derived.Test.YtkelgdjhpgefnaaGreatDoorMg18
set_option linter.unusedVariables false
set_option linter.unusedSimpArgs false
set_option linter.unusedSectionVars false
noncomputable section
namespace Go.Proofs.YtkelgdjhpgefnaaGreatDoor
section
namespace AM
open Go Go.RowKit
section
variable {P:Program} {A:Ann} {g g':G} {w w':World}
def World.upto (w:World) (n:Nat):World:={w with heap:=w.heap.extract 0 n}
theorem FP {n b:Nat} (h:b<n):(World.upto w n).heap[b]?=w.heap[b]?:=by
 simp only[World.upto,Array.getElem?_extract]
 rcases Nat.lt_or_ge b w.heap.size with h'|h'
 ·rw[if_pos (by omega)];simp
 ·rw[if_neg (by omega),Array.getElem?_eq_none h']
theorem MQ {n:Nat} (h:n≤w.heap.size):(World.upto w n).heap.size=n:=by simp[World.upto];omega
theorem VR.clo' {f:FuncId} {cs:List V} {c:Value} (h:VR P g w (.clo f cs) c):∃vs,c= .func (.func f) #[] (List.toArray vs)∧cs.length=vs.length∧∀(j:Nat) (x:V) (c:Value),cs[j]?=some x→vs[j]?=some c→LR P g w x c:=by
 cases h.leaf' rfl (by simp)with
 |clo f vs cs hn hl=>exact⟨cs,rfl,hn,hl⟩
theorem SR.grown {st:St} {tm:Array Value} (S:SR P A g w st tm) (B:Below w.heap.size w w'):Ext g w g w'∧SR P A g w' st tm:=by
 have O:Old g w g w':=⟨B.os,B.tape,B.output,B.size,fun b hb=>⟨B.block b hb,rfl,rfl,rfl⟩,⟨[],by simp⟩,⟨[],by simp⟩⟩
 exact⟨O.ext,S.old O ⟨fun b hb=>S.wg.fresh b (Nat.le_trans B.size hb),fun i b hb=>⟨Nat.lt_of_lt_of_le (S.wg.box i b hb).1 B.size,(S.wg.box i b hb).2⟩,S.wg.le⟩ rfl rfl⟩
theorem SR.farbox (L:Lay P) {st:St} {tm:Array Value} (S:SR P A g w st tm) (B:Below w.heap.size w w') {b:Nat} (h1:w.heap.size≤b) {cs:Array Value} {e':TypeId} (hw:w'.heap[b]?=some (.cells cs e' (0,0))) {bt:BT} {v:V} (hb:bt.has P v)
 (hu:v.under (st.h.length+1)=true) (hl:v.fl.length≤cs.size) (hc:LRs P g w v.fl (cs.toList.take v.fl.length)) (hno:∀(j:Nat) e xs,v.fl[j]?≠some (.lst e .own xs)):
 Ext g w (g.box (some b) bt) w'∧SR P A (g.box (some b) bt) w' {st with h:=st.h++[v]} tm:=by
 have hlt:=lt_of_block hw
 have s1:(World.upto w' b).heap.size=b:=MQ (by omega)
 have s2:(World.upto w' (b+1)).heap.size=b+1:=MQ (by omega)
 obtain⟨E1,S1⟩:=S.grown (w':=World.upto w' b) ⟨B.os,B.tape,B.output,by rw[s1];exact h1,fun k hk=>(FP (by omega)).trans (B.block k hk)⟩
 have N:New (World.upto w' b) (World.upto w' (b+1)) cs e' (0,0):=
  ⟨rfl,rfl,rfl,by rw[s1,s2],fun k hk=>by rw[s1]at hk;rw[FP (by omega),FP hk],by rw[s1,FP (by omega)];exact hw⟩
 obtain⟨E2,S2⟩:=S1.newbox L N hb hu hl (fun j hj=>by simp only[World.frozen?,N.new];simp) (hc.ext E1 S.wg) hno
 rw[s1]at E2 S2
 obtain⟨E3,S3⟩:=S2.grown (w':=w') ⟨rfl,rfl,rfl,by rw[s2];omega,fun k hk=>by rw[s2]at hk;exact(FP hk).symm⟩
 exact⟨(E1.trans E2).trans E3,S3⟩
abbrev Bq:=Int×Int×Int
def tc (z:Bq):List Value:=[.int .i64 z.1,.int .i64 z.2.1,.int .i64 z.2.2]
def SlI (w:World) (c:Value) (zs:List Bq):Prop:=
 (∃a cap,c= .slice a 0 cap∧zs=[])∨∃b off cap,c= .slice (some ⟨b,off,none⟩) zs.length cap∧b<w.heap.size∧∀(j:Nat) (c:Value),(zs.flatMap tc)[j]?=some c→w.cell? ⟨b,off+j,none⟩=some c
structure SeqOk (P:Program) (A:Ann) (f:FuncId):Prop where
 code:∃fn c,P.funcs[f]?=some fn∧fn.body=some c
 itoa:(A.seq f).2=0→(A.seq f).1=2→∀(n:Int) (w:World),(∀i t v,A.glob i=some (t,v)→(∃b,i<w.heap.size∧b=Aa w i∧b=v.fl.length)∧∀(j:Nat) (k:IntKind) (m:Int),v.fl[j]?=some (.int k m)→w.cell? ⟨i,j,none⟩=some (.int k m))→
  -9223372036854775808≤n→n≤9223372036854775807→Calls P f #[.int .i64 n] w fun e' w'=>Below w.heap.size w w'∧e'= .returned (.string ⟨(U2 n).toArray⟩)
 atoi:(A.seq f).2=0→(A.seq f).1=1→∀(s:ByteArray) (w:World),(∀i t,A.glob i=some (t,.ifv)→∃s q,w.cell? ⟨i,0,none⟩=some (.iface s q))→s.size≤DF→
  Calls P f #[.string s] w fun e' w'=>Below w.heap.size w w'∧∃t q,e'= .returned (match Lib.atoiAll s.data.toList with| .ok v=> .tuple #[.int .i64 v,.nilIface]| .range => .tuple #[.int .i64 (Lib.atoiSat s.data.toList),.iface t q] | _ => .tuple #[.int .i64 0,.iface t q])
 size:(A.seq f).2≠0→P.cellsOf (A.seq f).2=3
 sort:(A.seq f).2≠0→1000000≤(A.seq f).1→(∀(w:World) (a:Option Addr) (cap:Nat),Calls P f #[.slice a 0 cap,.func (.func ((A.seq f).1%1000000)) #[] #[]] w fun e' w'=>e'= .returned (.tuple #[])∧Below w.heap.size w w')∧
  ∀(w:World) (b cap:Nat) (zs:List Bq),(∀z∈zs,N9 ((A.seq f).1/1000000) z=true)→(∀(j:Nat) (c:Value),(zs.flatMap tc)[j]?=some c→w.cell? ⟨b,j,none⟩=some c∧w.frozen? ⟨b,j,none⟩=false)→b<w.heap.size→zs.length≤DF→
  Calls P f #[.slice (some ⟨b,0,none⟩) zs.length cap,.func (.func ((A.seq f).1%1000000)) #[] #[]] w fun e' w'=>e'= .returned (.tuple #[])∧Below (w.setCells b 0 ((ER ((A.seq f).1/1000000) zs).flatMap tc)).heap.size (w.setCells b 0 ((ER ((A.seq f).1/1000000) zs).flatMap tc)) w'
 run:(A.seq f).2≠0→(A.seq f).1<1000000→∀(w:World) (B:Nat) (c:Value) (zs:List Bq),w.cell? ⟨B,0,none⟩=some c→SlI w c zs→zs.length≤DF→
  Calls P f #[.slice none 0 0,.func (.func (A.seq f).1) #[] #[.pointer (some ⟨B,0,none⟩)]] w fun e' w'=>∃v,e'= .returned v∧w'.ownsRow w.heap.size (A.seq f).2 3 v zs.length (zs.flatMap tc)∧Below w.heap.size w w'
theorem ACN {x:V} (h:i3 x=true):∃u a b c,x= .agg u [.int .i64 a,.int .i64 b,.int .i64 c]:=by
 unfold i3 at h
 split at h
 ·exact⟨_,_,_,_,rfl⟩
 ·cases h
theorem Zi:∀xs:List V,xs.all i3=true→∃zs:List Bq,zs.length=xs.length∧Ad xs=(zs.flatMap fun z=>[V.int .i64 z.1,.int .i64 z.2.1,.int .i64 z.2.2])
 |[],_=>⟨[],rfl,rfl⟩
 |x::xs,h=>by
  simp only[List.all_cons,Bool.and_eq_true]at h
  obtain⟨u,a,b,c,rfl⟩:=ACN h.1
  obtain⟨zs,h1,h2⟩:=Zi xs h.2
  exact⟨(a,b,c)::zs,by simp[h1],by simp only[Ad,V.fl,h2,List.flatMap_cons];rfl⟩
theorem FQ {g:G} {w:World}:∀(zs:List Bq) (j:Nat) (x:V) (c:Value),(zs.flatMap fun z=>[V.int .i64 z.1,.int .i64 z.2.1,.int .i64 z.2.2])[j]?=some x→(zs.flatMap tc)[j]?=some c→∃n,x= .int .i64 n∧c= .int .i64 n
 |[],j,x,c,h1,h2=>by simp at h1
 |z::zs,0,x,c,h1,h2=>by cases h1;cases h2;exact⟨_,rfl,rfl⟩
 |z::zs,1,x,c,h1,h2=>by cases h1;cases h2;exact⟨_,rfl,rfl⟩
 |z::zs,2,x,c,h1,h2=>by cases h1;cases h2;exact⟨_,rfl,rfl⟩
 |z::zs,j+3,x,c,h1,h2=>FQ (g:=g) (w:=w) zs j x c h1 h2
theorem D5 (zs:List Bq):(zs.flatMap tc).length=3*zs.length:=by
 induction zs with
 |nil=>rfl
 |cons z zs ih=>simp only[List.flatMap_cons,List.length_append,ih,tc,List.length_cons,List.length_nil];omega
theorem CS (zs:List Bq):(zs.flatMap fun z=>[V.int .i64 z.1,.int .i64 z.2.1,.int .i64 z.2.2]).length=3*zs.length:=by
 induction zs with
 |nil=>rfl
 |cons z zs ih=>simp only[List.flatMap_cons,List.length_append,ih,List.length_cons,List.length_nil];omega
theorem Qs (u:TypeId):∀zs:List Bq,Ad (zs.map (Uz u))=zs.flatMap fun z=>[V.int .i64 z.1,.int .i64 z.2.1,.int .i64 z.2.2]
 |[]=>rfl
 |z::zs=>by rw[List.map_cons,Ad,Qs u zs,List.flatMap_cons];rfl
theorem XA (zs:List Bq):∀x∈zs.flatMap fun z=>[V.int .i64 z.1,.int .i64 z.2.1,.int .i64 z.2.2],∃n,x= .int .i64 n:=by
 intro x hx
 rw[List.mem_flatMap]at hx
 obtain⟨z,_,hx⟩:=hx
 simp only[List.mem_cons,List.not_mem_nil,or_false]at hx
 rcases hx with rfl|rfl|rfl<;>exact⟨_,rfl⟩
theorem Yl (L:Lay P) {f:FuncId} (Q:SeqOk P A f) {st:St} {tm:Array Value} (S:SR P A g w st tm) {args:Array Value} {id len:Nat} {xs:List V}
 (hne:(A.seq f).2≠0) (hbig:1000000≤(A.seq f).1) (hlen:len=xs.length) (htag:xs.all (i3t (U3 xs))=true) (hrg:xs.all (fun x=>N9 ((A.seq f).1/1000000) (t3 x))=true) (hm:xs.length≤DF)
 (hb:st.h[id]?=some (.row (A.seq f).2 xs)) (hl:2=args.size)
 (hv:∀(i:Nat) (v:V) (c:Value),[V.win id [] 0 len (A.seq f).2,V.clo ((A.seq f).1%1000000) []][i]?=some v→args[i]?=some c→VR P g w v c):
 Calls P f args w fun e w'=>∃c g',e= .returned c∧Ext g w g' w'∧SR P A g' w' {st with h:=st.h.set id (.row (A.seq f).2 ((ER ((A.seq f).1/1000000) (xs.map t3)).map (Uz (U3 xs))))} tm∧VR P g' w' (.tup []) c:=by
 obtain⟨c0,c1,rfl⟩:∃c0 c1,args= #[c0,c1]:=by
  obtain⟨l⟩:=args
  match l,hl with
  |[a,b],_=>exact⟨a,b,rfl⟩
 have v0:=hv 0 _ c0 rfl rfl
 have v1:=hv 1 _ c1 rfl rfl
 obtain⟨caps,rfl,hcl,_⟩:=v1.clo'
 obtain rfl:caps=[]:=List.eq_nil_of_length_eq_zero (by simpa using hcl.symm)
 obtain⟨s0,s1⟩:=Q.sort hne hbig
 have hz:=TD htag
 generalize hu:U3 xs=u at*
 generalize hk:(A.seq f).1/1000000=k at*
 generalize (A.seq f).1%1000000=cf at*
 generalize (A.seq f).2=e at*
 generalize hzs:xs.map t3=zs at*
 have hzl:zs.length=xs.length:=by rw[←hzs,List.length_map]
 have pm:=IX k zs
 have tupV:∀(g':G) (w':World),VR P g' w' (.tup []) (.tuple #[]):=fun g' w'=>VR.tup (vs:=[]) (cs:=[]) rfl rfl (by simp)
 cases v0.leaf' rfl (by simp)with
 |win _ _ _ _ _ bt o n b cap h1 h2 h3 h4 h5 h6=>
  have hhas:=S.box.has id _ bt hb h1
  cases bt with
  |var t=>cases hhas with|scal _ hs _=>cases hs
  |row e0 n0=>
   simp only[BT.arr?,Option.some.injEq,Prod.mk.injEq]at h2
   obtain⟨rfl,rfl,rfl⟩:=h2
   obtain⟨ys,hy,hyl,hyt⟩:=hhas
   obtain rfl:xs=ys:=by injection hy
   subst hlen
   obtain⟨cs,ee,fz,w1,w2,w3,w4⟩:=S.box.cells id _ b hb h4
   have hfl:(V.row e0 xs).fl=zs.flatMap fun z=>[V.int .i64 z.1,.int .i64 z.2.1,.int .i64 z.2.2]:=by
    simp only[V.fl];rw[←hz,Qs]
   have hcell:∀(j:Nat) (c:Value),(zs.flatMap tc)[j]?=some c→w.cell? ⟨b,j,none⟩=some c∧w.frozen? ⟨b,j,none⟩=false:=by
    intro j c hj
    have hlt:j<(V.row e0 xs).fl.length:=by
     rw[hfl,CS,←D5]
     exact(List.getElem?_eq_some_iff.1 hj).1
    obtain⟨x,hx⟩:∃x,(V.row e0 xs).fl[j]?=some x:=⟨_,List.getElem?_eq_getElem hlt⟩
    obtain⟨c',x1,x2,_⟩:=w4 j x hx
    rw[hfl]at hx
    obtain⟨n,rfl,rfl⟩:=FQ (g:=g) (w:=w) zs j x c hx hj
    cases x2
    exact⟨by simp only[World.cell?,w1];simpa using x1,w3 j (by omega)⟩
   have hfl':(V.row e0 ((ER k zs).map (Uz u))).fl=(ER k zs).flatMap fun z=>[V.int .i64 z.1,.int .i64 z.2.1,.int .i64 z.2.2]:=by
    simp only[V.fl];rw[Qs]
   have hl':(V.row e0 ((ER k zs).map (Uz u))).fl.length=3*xs.length:=by rw[hfl',CS,FN,hzl]
   have hl0:(V.row e0 xs).fl.length=3*xs.length:=by rw[hfl,CS,hzl]
   have hcl':((ER k zs).flatMap tc).length=3*xs.length:=by rw[D5,FN,hzl]
   have ints:=XA (ER k zs)
   rw[←hfl']at ints
   obtain⟨E,S2,_,_⟩:=S.write (id:=id) (b:=b) (o:=0) (v0:= .row e0 xs) (v0':= .row e0 ((ER k zs).map (Uz u))) (ls:=(V.row e0 ((ER k zs).map (Uz u))).fl) (cs:=(ER k zs).flatMap tc) hb h4
    (fun bt' hb'=>by
     rw[h1]at hb';cases hb'
     refine⟨_,rfl,by rw[List.length_map,FN,hzl,hyl],fun x hx=> ?_⟩
     obtain⟨z,hz1,rfl⟩:=List.mem_map.1 hx
     have hz2:=pm.mem_iff.1 hz1
     have:Uz u z∈zs.map (Uz u):=List.mem_map_of_mem hz2
     rw[hz]at this
     exact hyt _ this)
    (by rw[Aw,List.all_eq_true];intro x hx;obtain⟨n,rfl⟩:=ints x hx;rfl)
    (by rw[hcl',hl0];omega) (by rw[hl',hl0])
    (fun k'=>by
     rw[hcl',Nat.zero_add,Nat.sub_zero]
     by_cases hk':k'<3*xs.length
     ·rw[if_pos ⟨Nat.zero_le _,hk'⟩]
     ·rw[if_neg (fun hh=>hk' hh.2),List.getElem?_eq_none (by rw[hl'];omega),List.getElem?_eq_none (by rw[hl0];omega)])
    ⟨by rw[hl',hcl'],fun j x c a1 a2=>by
     rw[hfl']at a1
     obtain⟨n,rfl,rfl⟩:=FQ (g:=g) (w:=w) _ j x c a1 a2
     exact .int _ _⟩
    (fun j c e' xs' hj _=>by obtain⟨n,hn⟩:=ints _ (List.mem_of_getElem? hj);cases hn)
   have hcall:=s1 w b cap zs (fun z hz'=>by
    rw[←hzs]at hz'
    obtain⟨x,hx,rfl⟩:=List.mem_map.1 hz'
    exact(List.all_eq_true.1 hrg) x hx) hcell (S.wg.box id b h4).1 (by rw[hzl];exact hm)
   rw[hzl]at hcall
   have e0':0+0*P.cellsOf e0=0:=by omega
   rw[e0']
   refine Calls.mono hcall fun e' w' hh=> ?_
   obtain⟨rfl,B⟩:=hh
   obtain⟨E2,S3⟩:=S2.grown B
   exact⟨_,_,rfl,E.trans E2,S3,tupV _ _⟩
 |win0 _ _ _ _ bt o n a cap h1 h2 h3 h4=>
  have hx0:xs=[]:=List.eq_nil_of_length_eq_zero hlen.symm
  subst hx0
  obtain rfl:zs=[]:=by rw[←hzs];rfl
  rw[W9]
  have hs:st.h.set id (.row e (List.map (Uz u) []))=st.h:=by
   apply List.ext_getElem?
   intro j
   rw[List.getElem?_set]
   split
   ·rename_i hj;subst hj
    split
    ·rw[hb];rfl
    ·rename_i hlt;rw[List.getElem?_eq_none (by omega)]at hb;cases hb
   ·rfl
  rw[hs]
  refine Calls.mono (s0 w a cap) fun e' w' hh=> ?_
  obtain⟨rfl,B⟩:=hh
  obtain⟨E,S2⟩:=S.grown B
  exact⟨_,_,rfl,E,S2,tupV _ _⟩
theorem Ym (L:Lay P) {f:FuncId} (Q:SeqOk P A f) {R:Type} {st:St} {tm:Array Value} (S:SR P A g w st tm) {vs:List V} {args:Array Value} {v:V} {h':List V}
 (hl:vs.length=args.size) (hv:∀(i:Nat) (v:V) (c:Value),vs[i]?=some v→args[i]?=some c→VR P g w v c) (h:aps (A.seq f).1 (A.seq f).2 vs st.h=some (v,h')):
 v.noOwn=true∧Calls P f args w fun e w'=>∃c g',e= .returned c∧Ext g w g' w'∧SR P A g' w' {st with h:=h'} tm∧VR P g' w' v c:=by
 unfold aps at h
 split at h
 ·rename_i s
  split at h
  rotate_left
  ·cases h
  rename_i hc
  simp only[Bool.and_eq_true]at hc
  obtain⟨⟨he,hg⟩,hm⟩:=hc
  have he:=Nat.eq_of_beq_eq_true he
  have hg:=Nat.eq_of_beq_eq_true hg
  have hm:=Nat.le_of_ble_eq_true hm
  simp only[Option.some.injEq,Prod.mk.injEq]at h
  obtain⟨rfl,rfl⟩:=h
  obtain⟨c0,rfl⟩:∃c0,args= #[c0]:=by
   obtain⟨l⟩:=args
   match l,hl with
   |[a],_=>exact⟨a,rfl⟩
  have v0:=hv 0 _ c0 rfl rfl
  obtain⟨z,rfl,hz⟩:=v0.str'
  refine⟨by unfold U1;split<;>rfl,?_⟩
  refine Calls.mono (Q.atoi he hg z w (fun i t hi=> ?_) (by rw[←hz]at hm;simpa using hm)) fun e w' hh=> ?_
  ·have:=(S.glob i t .ifv hi).1
   cases this with
   |rop _ _ b off cs ht hn hc hl hb hro=>
    obtain⟨c,rfl⟩:∃c,cs=[c]:=by
     match cs,hn with
     |[c],_=>exact⟨c,rfl⟩
    have:=hl 0 .ifv c rfl rfl
    cases this with
    |ifv s q=>exact⟨s,q,hc 0 _ rfl⟩
  ·obtain⟨B,t,q,rfl⟩:=hh
   obtain⟨E1,S1⟩:=S.grown B
   refine⟨_,_,rfl,E1,S1,?_⟩
   rw[hz]
   have pr:∀(a:V) (n:Int) (c:Value),a.leafy=true→a.noOwn=true→LR P g w' a c→VR P g w' (.tup [.int .i64 n,a]) (.tuple #[.int .i64 n,c]):=by
    intro a n c ha ho hr
    refine VR.tup (cs:=[.int .i64 n,c]) (by simp[Ae,V.noOwn,ho]) rfl fun j x c' h1 h2=> ?_
    match j with
    |0=>cases h1;cases h2;exact .leaf rfl (.int ..)
    |1=>cases h1;cases h2;exact .leaf ha hr
    |j+2=>simp at h1
   unfold U1
   cases Lib.atoiAll s with
   |ok v=>exact pr .nili _ _ rfl rfl .nili
   | _ => exact pr .ifv _ _ rfl rfl (.ifv t q)
 ·rename_i n
  split at h
  rotate_left
  ·cases h
  rename_i hc
  simp only[Bool.and_eq_true,decide_eq_true_eq]at hc
  obtain⟨⟨⟨he,hg⟩,hm⟩,hm'⟩:=hc
  have he:=Nat.eq_of_beq_eq_true he
  have hg:=Nat.eq_of_beq_eq_true hg
  simp only[Option.some.injEq,Prod.mk.injEq]at h
  obtain⟨rfl,rfl⟩:=h
  obtain⟨c0,rfl⟩:∃c0,args= #[c0]:=by
   obtain⟨l⟩:=args
   match l,hl with
   |[a],_=>exact⟨a,rfl⟩
  have v0:=hv 0 _ c0 rfl rfl
  obtain rfl:=v0.int'
  refine⟨rfl,?_⟩
  refine Calls.mono (Q.itoa he hg n w (fun i t v hi=> ?_) hm hm') fun e w' hh=> ?_
  ·obtain⟨h1,_,_,h4⟩:=S.glob i t v hi
   cases h1 with
   |rop _ _ b off cs ht hn hc hl hb hro=>
    refine⟨⟨_,hb,rfl,h4⟩,fun j k m hj=> ?_⟩
    obtain⟨c,hcj⟩:∃c,cs[j]?=some c:=⟨_,List.getElem?_eq_getElem (by rw[hn];exact(List.getElem?_eq_some_iff.1 hj).1)⟩
    have hr:=hl j _ c hj hcj
    cases hr
    have:=hc j _ hcj
    simpa using this
  ·obtain⟨B,rfl⟩:=hh
   obtain⟨E1,S1⟩:=S.grown B
   exact⟨_,_,rfl,E1,S1,.lf rfl (by have:=LR.str (P:=P) (g:=g) (w:=w') ⟨(U2 n).toArray⟩;simpa using this)⟩
 rotate_left
 ·rename_i id len e' g1
  split at h
  rotate_left
  ·cases h
  rename_i e2 xs hb
  split at h
  rotate_left
  ·cases h
  rename_i hc
  simp only[Bool.and_eq_true]at hc
  obtain⟨⟨⟨⟨⟨⟨⟨⟨hne,hbig⟩,hg⟩,he⟩,he2⟩,hlen⟩,htag⟩,hrg⟩,hm⟩:=hc
  obtain rfl:=Nat.eq_of_beq_eq_true hg
  obtain rfl:=Nat.eq_of_beq_eq_true he
  obtain rfl:=Nat.eq_of_beq_eq_true he2
  simp only[Option.some.injEq,Prod.mk.injEq]at h
  obtain⟨rfl,rfl⟩:=h
  exact⟨rfl,Yl L Q S (fun h0=>by rw[h0]at hne;cases hne) (Nat.le_of_ble_eq_true hbig) (Nat.eq_of_beq_eq_true hlen) htag hrg (Nat.le_of_ble_eq_true hm) hb hl hv⟩
 ·cases h
 rename_i e0 g1 id t
 split at h
 rotate_left
 ·cases h
 rename_i e1 fl xs hb
 split at h
 rotate_left
 ·cases h
 rename_i hc
 simp only[Bool.and_eq_true]at hc
 obtain⟨⟨⟨⟨⟨hne,hlt⟩,hg⟩,he⟩,h3⟩,hm⟩:=hc
 have hlt:(A.seq f).1<1000000:=Nat.le_of_ble_eq_true hlt
 have hne:(A.seq f).2≠0:=by intro h0;rw[h0]at hne;cases hne
 obtain rfl:=Nat.eq_of_beq_eq_true hg
 obtain rfl:=Nat.eq_of_beq_eq_true he
 have hm:=Nat.le_of_ble_eq_true hm
 simp only[Option.some.injEq,Prod.mk.injEq]at h
 obtain⟨rfl,rfl⟩:=h
 refine⟨rfl,?_⟩
 obtain⟨c0,c1,rfl⟩:∃c0 c1,args= #[c0,c1]:=by
  obtain⟨l⟩:=args
  match l,hl with
  |[a,b],_=>exact⟨a,b,rfl⟩
 have v0:=hv 0 _ c0 rfl rfl
 have v1:=hv 1 _ c1 rfl rfl
 have e0:c0= .slice none 0 0:=by
  cases v0.leaf' rfl (by simp)with
  |nil=>rfl
  |emp _ _ _ _ h=>exact(h rfl).elim
  |lst _ _ _ _ _ _ _ h=>exact(h rfl).elim
 subst e0
 obtain⟨caps,rfl,hcl,hcr⟩:=v1.clo'
 obtain⟨cp,rfl⟩:∃cp,caps=[cp]:=by
  match caps,hcl with
  |[a],_=>exact⟨a,rfl⟩
 have hlr:=hcr 0 _ cp rfl rfl
 cases hlr with
 |ref _ _ _ bt o b q1 q2 q3=>
  have hbt:o=0:=by
   cases bt with
   |var t'=>simp only[BT.var?,walk,Option.some.injEq,Prod.mk.injEq]at q2;exact q2.1.symm
   |row e n=>simp[BT.var?]at q2
  subst hbt
  obtain⟨cs,ee,fz,w1,w2,w3,w4⟩:=S.box.cells id _ b hb q3
  obtain⟨c,x1,x2,_⟩:=w4 0 (.lst (A.seq f).2 fl xs) rfl
  have hcell:w.cell? ⟨b,0,none⟩=some c:=by simp only[World.cell?,w1];simpa using x1
  have hht:∀x∈xs,HT P (A.seq f).2 x:=by
   have hhas:=S.box.has id _ bt hb q1
   cases x2 with
   |nil=>simp
   |emp=>simp
   |lst _ _ _ _ _ _ _ _ hh=>exact hh
  obtain⟨zs,z1,z2⟩:=Zi xs h3
  have hsl:SlI w c zs:=by
   cases x2 with
   |nil=>exact .inl ⟨none,0,rfl,List.eq_nil_of_length_eq_zero (by simpa using z1)⟩
   |emp _ _ a cap _=>exact .inl ⟨a,cap,rfl,List.eq_nil_of_length_eq_zero (by simpa using z1)⟩
   |lst _ _ _ b2 off cap cs2 y1 y2 y3 y4 y5 y6 y7 y8 y9=>
    refine .inr ⟨b2,off,cap,by rw[z1],y7,fun j c hj=> ?_⟩
    have hlt:j<(Ad xs).length:=by
     rw[z2,CS,←D5]
     exact(List.getElem?_eq_some_iff.1 hj).1
    obtain⟨x,hx⟩:∃x,(Ad xs)[j]?=some x:=⟨_,List.getElem?_eq_getElem hlt⟩
    obtain⟨cc,hcc⟩:∃cc,cs2[j]?=some cc:=⟨_,List.getElem?_eq_getElem (by omega)⟩
    have r:=y6 j _ _ hx hcc
    have hx':=hx
    rw[z2]at hx'
    obtain⟨n,rfl,p2⟩:=FQ (g:=g) (w:=w) zs j _ c hx' hj
    rw[y5 j _ hcc,p2]
    cases r;rfl
  refine Calls.mono (Q.run hne hlt w b c zs hcell hsl (by omega)) fun e w' hh=> ?_
  obtain⟨v,rfl,⟨k1,k2⟩,B⟩:=hh
  rcases k2 with⟨rfl,k2⟩|⟨gb,cap,cur,rfl,k3,k4,k5,k6,k7,k8⟩
  ·have hxs:xs=[]:=List.eq_nil_of_length_eq_zero (by omega)
   subst hxs
   obtain⟨E1,S1⟩:=S.grown B
   obtain⟨E,S'⟩:=S1.voidbox (bt:= .row (A.seq f).2 0) (v:= .row (A.seq f).2 []) ⟨[],rfl,rfl,by simp⟩ rfl rfl
   refine⟨_,_,rfl,E1.trans E,S',.lf rfl ?_⟩
   exact .win0 st.h.length [] 0 _ (.row _ 0) 0 0 none 0 (by simp only[G.box];rw[S1.box.tys,List.getElem?_append_right (Nat.le_refl _)];simp) rfl (Nat.le_refl _) (fun _=>rfl)
  ·have e3:=Q.size hne
   have hfl:(V.row (A.seq f).2 xs).fl=zs.flatMap fun z=>[V.int .i64 z.1,.int .i64 z.2.1,.int .i64 z.2.2]:=by simp only[V.fl];exact z2
   have hlen:(V.row (A.seq f).2 xs).fl.length=3*zs.length:=by rw[hfl,CS]
   have ints:∀x∈(V.row (A.seq f).2 xs).fl,∃n,x= .int .i64 n:=by
    intro x hx
    rw[hfl,List.mem_flatMap]at hx
    obtain⟨z,_,hx⟩:=hx
    simp only[List.mem_cons,List.not_mem_nil,or_false]at hx
    rcases hx with rfl|rfl|rfl<;>exact⟨_,rfl⟩
   obtain⟨E,S'⟩:=S.farbox L B k3 k4 (bt:= .row (A.seq f).2 xs.length) (v:= .row (A.seq f).2 xs) ⟨xs,rfl,rfl,hht⟩
    (by rw[Aw,List.all_eq_true];intro x hx;obtain⟨n,rfl⟩:=ints x hx;rfl)
    (by rw[hlen,k7];have:=Nat.mul_le_mul_right 3 k5;omega)
    ⟨by have:=Nat.mul_le_mul_right 3 k5;have k7':cur.toList.length=cap*3:=k7;rw[List.length_take,hlen,k7'];omega,fun j x c a1 a2=>by
     rw[hlen,Nat.mul_comm,k8]at a2
     rw[hfl]at a1
     obtain⟨n,rfl,rfl⟩:=FQ (g:=g) (w:=w) zs j x c a1 a2
     exact .int _ _⟩
    (fun j e xs' hj=>by obtain⟨n,hn⟩:=ints _ (List.mem_of_getElem? hj);cases hn)
   refine⟨_,_,rfl,E,S',.lf rfl ?_⟩
   have:=LR.win (P:=P) (g:=g.box (some gb) (.row (A.seq f).2 xs.length)) (w:=w') st.h.length [] 0 xs.length (A.seq f).2 (.row (A.seq f).2 xs.length) 0 xs.length gb cap
    (by simp only[G.box];rw[S.box.tys,List.getElem?_append_right (Nat.le_refl _)];simp) rfl (by omega) (by simp only[G.box];rw[S.box.len,List.getElem?_append_right (Nat.le_refl _)];simp) (by omega) (fun _ _=>by
     have:Aa w' gb=cur.size:=by unfold Aa;rw[k4]
     rw[this,e3,k7];omega)
   rw[z1]
   simpa using this
end
end AM
end
section
namespace AM
open Go
section
variable {P:Program} {A:Ann} {O:Orc} {g g':G} {w w':World}
structure FnOk (P:Program) (A:Ann):Prop where
 name:∀(f:FuncId) (fn:Func),P.funcs[f]?=some fn→fn.name≠ "runtime.NumGoroutine"
 pure:∀f,A.pure f=true→A.ret f≠ .keep
 glob:∀i t v,A.glob i=some (t,v)→v.clean=true
 ext:∀f,A.ext f=true→A.nat f=0→∃fn ps t e,P.funcs[f]?=some fn∧fn.body=none∧Extern.findNext fn=none∧Extern.find fn=some (Extern.BytealgMakeNoZero.makeNoZero ps #[t])∧fn.resultTypes.getD 0 0=t∧K P t= .slice e∧K P e= .scal
 nat:∀f,A.ext f=true→A.nat f≠0→∃fn x,P.funcs[f]?=some fn∧fn.body=none∧Extern.findNext fn=none∧Extern.find fn=some x∧∀(s:ByteArray) (c:Int) (w:World),(x #[.string s,.int .u8 c]).run P w= .ok (.int .i64 (Zq (A.nat f) s.data.toList c)) w
 seq:∀f,(A.seq f).1≠0→SeqOk P A f
def Bl (P:Program) (A:Ann) (O:Orc):Prop:=∀f vs h r,O.call f vs h=some r→Qr P A f vs h r∧(A.pure f=true→r.1.clean=true∨∃e xs,r.1= .lst e .own xs∧AL xs=true)∧
 (∃fn c,P.funcs[f]?=some fn∧fn.body=some c)∧(A.ret f≠ .own→r.1.noOwn=true)
def Py (P:Program) (A:Ann) (R:Type) (g:G) (w:World) (st:St) (tm:Array Value) (f:FuncId) (args:Array Value) (l:Nat⊕(Nat×Nat)) (k:V→List V→Option R) (r:R):Prop:=
 Calls P f args w fun e w'=>∃c v h' g',e= .returned c∧k v h'=some r∧Ext g w g' w'∧SR P A g' w' {st with h:=h'} tm∧VR P g' w' v c∧(∀e xs,v= .lst e .own xs→Own P g' w' e xs.length c l)∧((∃e xs,v= .lst e .own xs)∨v.noOwn=true)∧(A.ret f≠ .own→v.noOwn=true)
theorem GlobOk.bare (FO:FnOk P A) (h:GlobOk P A g w):GlobOk P A (g.bare w) w:=by
 intro i t v hi
 obtain⟨this,_,_,h4⟩:=h i t v hi
 refine⟨?_,rfl,by simp[G.bare],h4⟩
 cases this with
 |rop _ _ b off cs ht hn hc hl hb hro=>
  exact .rop t v i 0 cs ht hn hc (fun j x c h1 h2=>LR.cleanTo (g:=g) (g2:=g.bare w) (fun b _=>Nat.le_refl _) (hl j x c h1 h2) (KR v (FO.glob i t v hi) x (List.mem_of_getElem? h1))) hb (Nat.le_trans hro (Pq g w i))
mutual
theorem Pz (h:List V):∀v:V,(v.reify h).noOwn=true
 | .agg t fs=>by simp only[V.reify,V.noOwn];exact Dj h fs
 | .row t fs=>rfl
 | .tup fs=>rfl
 | .lst e f xs=>by cases f<;>rfl
 | .bool _=>rfl
 | .int _ _=>rfl
 | .str _=>rfl
 | .win _ _ _ _ _=>by
   simp only[V.reify]
   split
   ·split<;>rfl
   ·rfl
 | .ref _ _ _=>rfl
 | .rop _ _=>rfl
 | .nilp=>rfl
 | .clo _ _=>rfl
 | .nilf=>rfl
 | .nili=>rfl
 | .ifv=>rfl
 | .undef=>rfl
theorem Dj (h:List V):∀vs:List V,Ae (AP h vs)=true
 |[]=>rfl
 |v::vs=>by
  simp only[Ae,AP,Bool.and_eq_true]
  exact⟨Pz h v,Dj h vs⟩
end
theorem AR.norm {v:V} {c:Value} (h:AR P g w v c):AR P g w v.norm c:=by
 cases h with
 |leaf hv h=>
  refine .leaf ?_ (h.norm hv)
  cases v with
  |lst e f xs=>cases f<;>rfl
  |agg=>simp[V.leafy]at hv
  |row=>simp[V.leafy]at hv
  |tup=>simp[V.leafy]at hv
  |_=>rfl
 |agg ht hn h=>
  rename_i t u fs cs
  have hnt:=ht.noTup
  have e:=Nj (.agg u fs) hnt.1 hnt.2
  simp only[V.norm,V.fl]at e
  refine .agg (t:=t) ht.norm (by rw[e];simp[hn]) fun j x c h1 h2=> ?_
  rw[e,List.getElem?_map,Option.map_eq_some_iff]at h1
  obtain⟨x',h1,rfl⟩:=h1
  exact(h j x' c h1 h2).norm (EW fs x' (List.mem_of_getElem? h1) (hnt.2 x' (by simp only[V.fl];exact List.mem_of_getElem? h1)))
theorem VR.norm {v:V} {c:Value} (h:VR P g w v c):VR P g w v.norm c:=by
 cases h with
 |val h=>exact .val h.norm
 |dead c=>exact .dead c
 |tup h1 h2 h3=>
  simp only[V.norm]
  refine .tup (BQ _) (by rw[Aq];simp[h2]) fun j x c a b=> ?_
  rw[Aq,List.getElem?_map,Option.map_eq_some_iff]at a
  obtain⟨y,a,rfl⟩:=a
  exact(h3 j y c a b).norm
theorem UN (h:GlobOk P A g w):GlobOk P A g.down w:=fun i t v hi=>by
 obtain⟨h1,h2,h3,h4⟩:=h i t v hi
 exact⟨LR.congr (g:=g) (g2:=g.down) rfl rfl rfl rfl h1,by simp only[G.down,h2],h3,h4⟩
theorem Yn {b:Bool} {vs:List V} {e:TypeId} (h:Zt b vs=some e):vs=[.lst e .sh []]:=by
 unfold Zt at h
 split at h
 ·cases h
 ·simp only[Option.some.injEq]at h;rw[h]
 ·cases h
theorem Yo {x y v:V} (h:Zu x y=some v):x=v∧y=v:=by
 unfold Zu at h
 split at h
 ·split at h
  ·rename_i he
   simp only[Option.some.injEq]at h
   subst he
   exact⟨h,h⟩
  ·cases h
 ·cases h
theorem UO {g:G} {e:TypeId} {c:Value} (h:VR P g w (.lst e .sh []) c):VR P g w (.lst e .nil []) c∨VR P g w (.lst e .non []) c:=by
 cases h.leaf' rfl (by simp)with
 |emp _ _ a cap hf hs=>
  cases a with
  |none=>
   obtain rfl:=(hs rfl).2
   exact .inl (.lf rfl (.nil e))
  |some a=>exact .inr (.lf rfl (.emp e .non (some a) cap (by simp) (fun h=>by cases h)))
 |lst _ _ _ b off cap cs h1 h2 h3 h4 h5 h6 h7 h8 h9=>
  exact .inr (.lf rfl (.emp e .non _ cap (by simp) (fun h=>by cases h)))
theorem UQ (L:Lay P) (FO:FnOk P A) (HO:Bl P A O) {R:Type} {st:St} {tm:Array Value} (S:SR P A g w st tm) {f:FuncId} {vs:List V} {args:Array Value} (l:Nat⊕(Nat×Nat)) {k:V→List V→Option R} {r:R}
 (hl:vs.length=args.size) (hv:∀(i:Nat) (v:V) (c:Value),vs[i]?=some v→args[i]?=some c→VR P g w v c) (hx:A.ext f=false) (h:GI P A O f vs st.h k=some r):
 Py P A R g w st tm f args l k r∧∃fn c,P.funcs[f]?=some fn∧fn.body=some c:=by
 unfold GI at h
 rw[hx]at h
 simp only[Bool.false_eq_true,if_false]at h
 split at h
 ·rename_i hq
  have Q:=FO.seq f hq
  obtain⟨rr,hr,hk⟩:=Option.bind_eq_some_iff.1 h
  obtain⟨hno,hrun⟩:=Ym (R:=R) L Q S hl hv hr
  refine⟨Calls.mono hrun fun e w' he=> ?_,Q.code⟩
  obtain⟨c,g',rfl,E,S',hV⟩:=he
  exact⟨c,rr.1,rr.2,g',rfl,hk,E,S',hV,fun e xs hh=>by rw[hh]at hno;simp[V.noOwn]at hno,.inr hno,fun _=>hno⟩
 split at h
 ·rename_i hp
  obtain⟨rr,hr,hk⟩:=Option.bind_eq_some_iff.1 h
  have one:∀(us:List V) (rr:V×List V),us.length=args.size→(∀(i:Nat) (v:V) (c:Value),us[i]?=some v→args[i]?=some c→VR P (g.bare w) w v c)→Ae us=true→O.call f us []=some rr→k rr.1 st.h=some r→
   Py P A R g w st tm f args l k r∧∃fn c,P.funcs[f]?=some fn∧fn.body=some c:=by
   intro us rr ul uv uo hr hk
   obtain⟨hc,hcl,hfn,hpl⟩:=HO _ _ _ _ hr
   refine⟨?_,hfn⟩
   have hclean:=hcl hp
   have:=hc (g.bare w) w args l BX.bare S.wg.bare (GlobOk.bare FO S.glob) (by simp[G.bare]) ul uv uo
   refine Calls.mono this fun e w' he=> ?_
   obtain⟨c,g',rfl,E,q1,q2,q3,q4,q5,q6⟩:=he
   obtain⟨E',S'⟩:=S9 S E q5
   have hcl':rr.1.clean=true:=by
    rcases hclean with h|⟨e,xs,h,_⟩
    ·exact h
    ·rw[h];rfl
   exact⟨c,rr.1,st.h,_,rfl,hk,E',S',q1.cleanTo (Sz E) hcl',fun e xs hh=>Pv S.wg E (q2 e xs hh),q3,hpl⟩
  have rl:(AP st.h vs).length=args.size:=by rw[BV];simpa using hl
  have rv:∀(i:Nat) (v:V) (c:Value),(AP st.h vs)[i]?=some v→args[i]?=some c→VR P (g.bare w) w v c:=fun i v c h1 h2=>by
   rw[BV,List.getElem?_map,Option.map_eq_some_iff]at h1
   obtain⟨y,h1,rfl⟩:=h1
   exact(hv i y c h1 h2).reify L S.box S.wg
  unfold Ja at hr
  split at hr
  ·rename_i e ht
   obtain⟨r1,hr1,hr⟩:=Option.bind_eq_some_iff.1 hr
   obtain⟨r2,hr2,hr⟩:=Option.bind_eq_some_iff.1 hr
   obtain⟨v,hem,hv'⟩:=Option.bind_eq_some_iff.1 hr
   simp only[Option.some.injEq]at hv'
   subst hv'
   obtain⟨he1,he2⟩:=Yo hem
   have hvs:=Yn ht
   rw[hvs]at rl rv
   have hsz:args.size=1:=rl.symm
   have hc0:args[0]?=some (args[0]'(by omega)):=Array.getElem?_eq_getElem _
   have h0:=rv 0 _ _ rfl hc0
   have at0:∀{i:Nat} {u v:V} {c:Value},[u][i]?=some v→args[i]?=some c→v=u∧c=args[0]'(by omega):=fun{i u v c} a b=>by
    cases i with
    |zero=>simp only[List.getElem?_cons_zero,Option.some.injEq]at a;rw[hc0]at b;exact⟨a.symm,(Option.some.inj b).symm⟩
    |succ i=>simp at a
   rcases UO h0 with h0|h0
   ·exact one [.lst e .nil []] r1 rl (fun i v c a b=>by obtain⟨rfl,rfl⟩:=at0 a b;exact h0) rfl hr1 (by rw[he1];exact hk)
   ·exact one [.lst e .non []] r2 rl (fun i v c a b=>by obtain⟨rfl,rfl⟩:=at0 a b;exact h0) rfl hr2 (by rw[he2];exact hk)
  ·exact one _ rr rl rv (Dj _ _) hr hk
 ·obtain⟨rr,hr,hk⟩:=Option.bind_eq_some_iff.1 h
  obtain⟨hc,hcl,hfn,hpl⟩:=HO _ _ _ _ hr
  refine⟨?_,hfn⟩
  have:=hc g.down w args l S.box.down S.wg.down (UN S.glob) (fun b i hh=>by
   simp only[G.down]at hh
   split at hh<;>cases hh) (by rw[Aq];simpa using hl) (fun i v c h1 h2=>by
   rw[Aq,List.getElem?_map,Option.map_eq_some_iff]at h1
   obtain⟨y,h1,rfl⟩:=h1
   exact VR.congr (g:=g) (g2:=g.down) rfl rfl rfl rfl (hv i y c h1 h2).norm) (BQ _)
  refine Calls.mono this fun e w' he=> ?_
  obtain⟨c,g',rfl,E,q1,q2,q3,q4,q5,q6⟩:=he
  obtain⟨E',S',ho⟩:=ACJ S E q4 q5 q6
  exact⟨c,rr.1,rr.2,_,rfl,hk,E',S',VR.congr (g:=g') (g2:=g.up g') rfl rfl rfl rfl q1,fun e xs hh=>ho (q2 e xs hh),q3,hpl⟩
end
end AM
end
section
namespace AM
open Go
section
variable {P:Program} {A:Ann} {O:Orc} {g g':G} {w w':World}
theorem I7:∀(n t:Nat) (acc:Array Value),(∀(j:Nat) (c:Value),acc[j]?=some c→c.oneCell'=true)→(Extern.BytealgMakeNoZero.digits n t acc).size=acc.size+n∧∀(j:Nat) (c:Value),(Extern.BytealgMakeNoZero.digits n t acc)[j]?=some c→c.oneCell'=true
 |0,_,acc,h=>⟨rfl,h⟩
 |n+1,t,acc,h=>by
  rw[Extern.BytealgMakeNoZero.digits]
  obtain⟨a,b⟩:=I7 n (t/256) (acc.push (.int .u8 (Int.ofNat (t%256)))) (fun j c hj=>by
   rw[Array.getElem?_push]at hj
   split at hj
   ·obtain rfl:=Option.some.inj hj;rfl
   ·exact h j c hj)
  exact⟨by rw[a,Array.size_push];omega,b⟩
theorem UR (n:Nat):Ad (List.replicate n V.undef)=List.replicate n V.undef:=by
 induction n with
 |zero=>rfl
 |succ n ih=>simp only[List.replicate_succ,Ad,V.fl,ih];rfl
theorem Yp (L:Lay P) {st:St} {tm:Array Value} (S:SR P A g w st tm) {ps:Array TypeId} {t e:TypeId} {n:Int} (hk:K P t= .slice e) (hke:K P e= .scal) (h0:0≤n) (hm:n≤DF):
 ∃c w' g',(Extern.BytealgMakeNoZero.makeNoZero ps #[t] #[.int .i64 n]).run P w= .ok c w'∧Ext g w g' w'∧SR P A g' w' {st with h:=st.h++[.row e (List.replicate n.toNat .undef)]} tm∧VR P g' w' (.win st.h.length [] 0 n.toNat e) c:=by
 let bytes:=(Question.extern "internal/bytealg.MakeNoZero.bytes" 0).cut (w.drew.tape w.drew.drawn (.extern "internal/bytealg.MakeNoZero.bytes" 0))
 let cap:=grownCap w n.toNat 0 e
 let cs:=Extern.BytealgMakeNoZero.digits cap bytes #[]
 obtain⟨d1,d2⟩:=I7 cap bytes #[] (by simp)
 have hcs:cs.size=cap:=by simpa using d1
 have hge:n.toNat≤cap:=grownCap_ge w n.toNat 0 e
 have N:New w (w.drew.drew.alloc (.cells cs e)) cs e (0,0):=
  ⟨rfl,rfl,rfl,by simp,fun b hb=>heap_alloc_old w.drew.drew _ b hb,heap_alloc_new w.drew.drew _⟩
 have h1:=L.scal e hke
 have hfl:(V.row e (List.replicate n.toNat V.undef)).fl=List.replicate n.toNat V.undef:=by simp only[V.fl];exact UR _
 obtain⟨E,S'⟩:=S.newbox L N (bt:= .row e n.toNat) (v:= .row e (List.replicate n.toNat .undef)) ⟨_,rfl,by simp,fun x hx=>by rw[List.eq_of_mem_replicate hx];exact .undef hke⟩
  (by rw[Aw,hfl,List.all_eq_true];intro x hx;rw[List.eq_of_mem_replicate hx];rfl)
  (by rw[hfl,List.length_replicate,hcs];exact hge) (fun j hj=>by simp only[World.frozen?,N.new];simp)
  (by
   rw[hfl,List.length_replicate]
   refine⟨by simp[hcs,hge],fun j x c a b=> ?_⟩
   rw[List.getElem?_replicate]at a
   split at a
   ·cases a
    have b':cs[j]?=some c:=by
     rw[←Array.getElem?_toList]
     exact List.mem_of_getElem? b |> fun _=>by
      have hj:j<n.toNat:=by omega
      rwa [List.getElem?_take_of_lt hj]at b
    exact .undef c (d2 j c b')
   ·cases a)
  (fun j e' xs hj=>by
   rw[hfl,List.getElem?_replicate]at hj
   split at hj
   ·cases hj
   ·cases hj)
 refine⟨.slice (some ⟨w.heap.size,0,none⟩) n.toNat cap,_,_,?_,E,S',.lf rfl ?_⟩
 ·have hn:¬((decide (n<0)||decide (n>2^48))=true):=by
   simp only[Bool.or_eq_true,decide_eq_true_eq,not_or]
   simp only[DF]at hm
   exact⟨by omega,by have:(2:Int)^48=281474976710656:=by decide
                     omega⟩
  have har:∀k w,(askRoom k).run P w= .ok () w:=by intro k w;unfold askRoom;split<;>rfl
  have hdef:Extern.BytealgMakeNoZero.makeNoZero ps #[t] #[.int .i64 n]=
   (do
    let .slice elem ←underlying t|stuck "bytealg.MakeNoZero: slice type expected"
    if n<0||n>2^48 then runtimePanic (.error "makeslice: len out of range")
    let cap ←choose (.appendCap n.toNat 0 elem)
    askRoom cap
    let bytes ←choose (.extern "internal/bytealg.MakeNoZero.bytes" 0)
    let a ←newRow elem (Extern.BytealgMakeNoZero.digits cap bytes #[])
    pure (.slice (some a) n.toNat cap)):=rfl
  rw[hdef]
  simp only[Sem.run_bind,AA (BP hk),Result.andThen_ok,Sem.run_ite]
  rw[if_neg hn]
  have hch:(choose (.appendCap n.toNat 0 e)).run P w= .ok cap w.drew:=rfl
  have hch2:(choose (.extern "internal/bytealg.MakeNoZero.bytes" 0)).run P w.drew= .ok bytes w.drew.drew:=rfl
  have hnr:(newRow e cs).run P w.drew.drew= .ok ⟨w.heap.size,0,none⟩ (w.drew.drew.alloc (.cells cs e)):=rfl
  rw[hch,Result.andThen_ok,har,Result.andThen_ok,hch2,Result.andThen_ok,hnr]
  rfl
 ·have:=LR.win (P:=P) (g:=g.box (some w.heap.size) (.row e n.toNat)) (w:=w.drew.drew.alloc (.cells cs e)) st.h.length [] 0 n.toNat e (.row e n.toNat) 0 n.toNat w.heap.size cap
   (by simp only[G.box];rw[S.box.tys,List.getElem?_append_right (Nat.le_refl _)];simp) rfl (by omega) (by simp only[G.box];rw[S.box.len,List.getElem?_append_right (Nat.le_refl _)];simp) hge (fun _ _=>by
    have e3:Aa (w.drew.drew.alloc (.cells cs e)) w.heap.size=cs.size:=by unfold Aa;rw[N.new]
    rw[e3,h1,hcs];simp)
  simpa using this
end
end AM
end
section
namespace AM
open Go
section
variable {P:Program} {A:Ann} {O:Orc} {g g':G} {w w':World}
theorem P5 (st:St) (x:Operand) (ar:Array Operand) (ts:Array TypeId) (h:ar.size=ts.size):(args P A st {callee:= .value x,args:=ar,argTypes:=ts}).length=ar.size:=by
 simp[args,h]
theorem XB {st:St} {a:Act} (S:SR P A g w st a.tmps) (x:Operand) (ar:Array Operand) (ts:Array TypeId) (i:Nat) (v:V) (c:Value)
 (h1:(args P A st {callee:= .value x,args:=ar,argTypes:=ts})[i]?=some v) (h2:(ar.map a.eval)[i]?=some c):VR P g w v c:=by
 simp only[args,List.getElem?_map,Option.map_eq_some_iff]at h1
 obtain⟨⟨y,t⟩,hy,rfl⟩:=h1
 rw[List.getElem?_zip_eq_some]at hy
 simp only[Array.getElem?_map,Option.map_eq_some_iff]at h2
 obtain⟨z,hz,rfl⟩:=h2
 have:y=z:=by
  have:=hy.1
  simp only[Array.getElem?_toList]at this
  rw[this]at hz;exact Option.some.inj hz
 subst this
 exact S.ev t y
def Inv (P:Program) (cx:Value) (ar:Array Value) (w:World) (K:Value→World→Prop):Prop:=
 match(Deferred.ofValue cx ar>>= fun d=>invoke d.target d.args).run P w with
 | .ok (.value c) w'=>K c w'
 | .ok (.enter f ar') w'=>Calls P f ar' w' fun e w''=>∃c,e= .returned c∧K c w''
 |_=>False
theorem Inv.mono {cx:Value} {ar:Array Value} {K K':Value→World→Prop} (h:Inv P cx ar w K) (hk:∀c w',K c w'→K' c w'):Inv P cx ar w K':=by
 unfold Inv at*
 split
 ·rename_i hr;rw[hr]at h;exact hk _ _ h
 ·rename_i hr;rw[hr]at h
  exact Calls.mono h fun e w'' he=>by obtain⟨c,h1,h2⟩:=he;exact⟨c,h1,hk _ _ h2⟩
 ·rename_i hn1 hn2
  split at h
  ·rename_i hr;exact hn1 _ _ hr
  ·rename_i hr;exact hn2 _ _ _ hr
  ·exact h
theorem Inv.goal {a:Act} {dst:Option Tmp} {x:Operand} {ar:Array Operand} {ts:Array TypeId} {type:TypeId} {pos:String} {after:Array Edge} {guard:Option (Nat×Bool)} {K:Value→World→Prop}
 {next:Act→World→Prop} {Q:Exit→Act→World→Prop} (h:Inv P (a.eval x) (ar.map a.eval) w K) (hk:∀c w',K c w'→next (a.put dst c) w'):
 Oper.wp P ⟨dst,.call {callee:= .value x,args:=ar,argTypes:=ts},type,pos,after,guard⟩ a w next Q:=by
 unfold Oper.wp
 have e:execOp a.eval ⟨dst,.call {callee:= .value x,args:=ar,argTypes:=ts},type,pos,after,guard⟩=(Deferred.ofValue (a.eval x) (ar.map a.eval)>>= fun d=>invoke d.target d.args):=rfl
 rw[e]
 unfold Inv at h
 split at h
 ·rename_i hr;rw[hr];exact hk _ _ h
 ·rename_i hr;rw[hr]
  simp only[Oper.upon]
  refine Calls.mono h fun e w'' he=> ?_
  obtain⟨c,rfl,h2⟩:=he
  exact hk _ _ h2
 ·exact h.elim
theorem IY (L:Lay P) (FO:FnOk P A) (HO:Bl P A O) {R:Type} {st:St} {tm:Array Value} {xv:V} {vs:List V} {cx:Value} {ar:Array Value} {k:V→List V→Option R} {r:R} (l:Nat⊕(Nat×Nat))
 (S:SR P A g w st tm) (hx:VR P g w xv cx) (hn:vs.length=ar.size) (hv:∀(i:Nat) (v:V) (c:Value),vs[i]?=some v→ar[i]?=some c→VR P g w v c)
 (h:CX P A O xv vs st.h k=some r):
 Inv P cx ar w fun c w'=>∃v h' g',k v h'=some r∧Ext g w g' w'∧SR P A g' w' {st with h:=h'} tm∧VR P g' w' v c∧(∀e xs,v= .lst e .own xs→Own P g' w' e xs.length c l)∧((∃e xs,v= .lst e .own xs)∨v.noOwn=true)∧(∀f cs,xv= .clo f cs→A.ret f≠ .own→v.noOwn=true):=by
 unfold CX at h
 split at h
 ·rename_i f cs
  obtain⟨caps,rfl,hcl,hcr⟩:=hx.clo'
  have hlen:(vs++cs).length=(ar++caps.toArray).size:=by simp[hn,hcl]
  have hval:∀(i:Nat) (v:V) (c:Value),(vs++cs)[i]?=some v→(ar++caps.toArray)[i]?=some c→VR P g w v c:=by
   intro i v c h1 h2
   rcases Nat.lt_or_ge i ar.size with hi|hi
   ·rw[List.getElem?_append_left (by omega)]at h1
    rw[Array.getElem?_append_left (by simpa using hi)]at h2
    exact hv i v c h1 h2
   ·rw[List.getElem?_append_right (by omega)]at h1
    rw[Array.getElem?_append_right (by simpa using hi)]at h2
    rw[hn]at h1
    simp only[List.getElem?_toArray]at h2
    have hlr:=hcr _ v c h1 h2
    exact .lf hlr.leafy hlr
  by_cases hxt:A.ext f=true
  ·unfold GI at h
   rw[if_pos hxt]at h
   unfold Xc at h
   split at h
   ·rename_i s n hvs
    split at h
    ·rename_i hj
     obtain⟨fn,x,e1,e2,e3,e4,e5⟩:=FO.nat f hxt hj
     have hne:=FO.name f fn e1
     have hargs:∃z:ByteArray,z.data.toList=s∧ar++caps.toArray= #[.string z,.int .u8 n]:=by
      rw[hvs]at hlen hval
      obtain⟨x0,x1,hc0⟩:∃x0 x1,ar++caps.toArray= #[x0,x1]:=by
       have hs1:(ar++caps.toArray).size=2:=by rw[←hlen];rfl
       generalize ar++caps.toArray=z at hs1
       obtain⟨l⟩:=z
       match l,hs1 with
       |[c0,c1],_=>exact⟨c0,c1,rfl⟩
      have h0:=hval 0 (.str s) x0 rfl (by rw[hc0];rfl)
      have h1:=hval 1 (.int .u8 n) x1 rfl (by rw[hc0];rfl)
      obtain⟨z,rfl,hz⟩:=h0.str'
      exact⟨z,hz,by rw[hc0,h1.int']⟩
     obtain⟨z,rfl,hargs⟩:=hargs
     have hb:(fn.name== "runtime.NumGoroutine")=false:=by simpa using hne
     have hrun:(Deferred.ofValue (.func (.func f) #[] caps.toArray) ar>>= fun d=>invoke d.target d.args).run P w= .ok (.value (.int .i64 (Zq (A.nat f) z.data.toList n))) w:=by
      simp only[Deferred.ofValue,invoke,Sem.run_bind,Sem.run_pure,Result.andThen_ok,callFunc,run_program,e1,hb,Array.empty_append,hargs,e2,e3,e4,Option.isNone_none,Bool.false_eq_true,if_false,if_true,run_mark,e5]
     unfold Inv
     rw[hrun]
     exact⟨_,_,g,h,Ext.refl _ _,S,.lf rfl (.int ..),fun e xs hh=>(by cases hh),.inr rfl,fun _ _ _ _=>rfl⟩
    ·cases h
   ·rename_i n hvs
    by_cases hj:A.nat f=0
    ·obtain⟨fn,ps,t,e,e1,e2,e3,e4,e5,e6,e7⟩:=FO.ext f hxt hj
     have hne:=FO.name f fn e1
     simp only[e1,e5,hj,true_and]at h
     split at h
     ·rename_i hn
      have hsl:Dc P t=e:=by simp[Dc,e6]
      rw[hsl]at h
      obtain⟨c,w',g',h1,h2,h3,h4⟩:=Yp (ps:=ps) L S e6 e7 hn.1 hn.2
      have hargs:ar++caps.toArray= #[.int .i64 n]:=by
       rw[hvs]at hlen hval
       have hs1:(ar++caps.toArray).size=1:=by rw[←hlen];rfl
       obtain⟨c0,hc0⟩:∃c0,ar++caps.toArray= #[c0]:=by
        generalize ar++caps.toArray=z at hs1
        obtain⟨l⟩:=z
        match l,hs1 with
        |[c0],_=>exact⟨c0,rfl⟩
       have:=hval 0 (.int .i64 n) c0 rfl (by rw[hc0];rfl)
       rw[hc0,this.int']
      have hb:(fn.name== "runtime.NumGoroutine")=false:=by simpa using hne
      have hrun:(Deferred.ofValue (.func (.func f) #[] caps.toArray) ar>>= fun d=>invoke d.target d.args).run P w= .ok (.value c) w':=by
       simp only[Deferred.ofValue,invoke,Sem.run_bind,Sem.run_pure,Result.andThen_ok,callFunc,run_program,e1,hb,Array.empty_append,hargs,e2,e3,e4,Option.isNone_none,Bool.false_eq_true,if_false,if_true,run_mark,h1]
      unfold Inv
      rw[hrun]
      exact⟨_,_,g',h,h2,h3,h4,fun e xs hh=>(by cases hh),.inr rfl,fun _ _ _ _=>rfl⟩
     ·cases h
    ·dsimp only at h
     rw[if_neg (fun hh=>hj hh.1)]at h
     cases h
   ·cases h
  ·have hxf:A.ext f=false:=by simpa using hxt
   obtain⟨hgoal,fn,body,hfn,hbody⟩:=UQ L FO HO S l hlen hval hxf h
   have hne:=FO.name f fn hfn
   have hb:(fn.name== "runtime.NumGoroutine")=false:=by simpa using hne
   have hrun:(Deferred.ofValue (.func (.func f) #[] caps.toArray) ar>>= fun d=>invoke d.target d.args).run P w= .ok (.enter f (ar++caps.toArray)) w:=by
    simp only[Deferred.ofValue,invoke,Sem.run_bind,Sem.run_pure,Result.andThen_ok,callFunc,run_program,hfn,hb,hbody,Option.isNone_some,Bool.false_eq_true,if_false,Array.empty_append]
   unfold Inv
   rw[hrun]
   refine Calls.mono hgoal fun e w' he=> ?_
   obtain⟨c,v,h',g',rfl,hk,E,S',q1,q2,q3,q4⟩:=he
   exact⟨c,rfl,v,h',g',hk,E,S',q1,q2,q3,fun f' cs' hh hne=>by cases hh;exact q4 hne⟩
 ·cases h
end
end AM
end
section
namespace AM
open Go
mutual
theorem JY (n:Nat):∀v:V,v.away n=true→∀x∈v.fl,x.away n=true
 | .agg t fs,h,x,hx=>by simp only[V.fl]at hx;exact FT n fs (by simpa [V.away]using h) x hx
 | .tup fs,h,x,hx=>by simp[V.fl]at hx;subst hx;exact h
 | .row t fs,h,x,hx=>by simp only[V.fl]at hx;exact FT n fs (by simpa [V.away]using h) x hx
 | .lst e f xs,h,x,hx=>by simp[V.fl]at hx;subst hx;exact h
 | .bool _,h,x,hx=>by simp[V.fl]at hx;subst hx;exact h
 | .int _ _,h,x,hx=>by simp[V.fl]at hx;subst hx;exact h
 | .str _,h,x,hx=>by simp[V.fl]at hx;subst hx;exact h
 | .win _ _ _ _ _,h,x,hx=>by simp[V.fl]at hx;subst hx;exact h
 | .ref _ _ _,h,x,hx=>by simp[V.fl]at hx;subst hx;exact h
 | .rop _ _,h,x,hx=>by simp[V.fl]at hx;subst hx;exact h
 | .nilp,h,x,hx=>by simp[V.fl]at hx;subst hx;exact h
 | .clo _ _,h,x,hx=>by simp[V.fl]at hx;subst hx;exact h
 | .nilf,h,x,hx=>by simp[V.fl]at hx;subst hx;exact h
 | .nili,h,x,hx=>by simp[V.fl]at hx;subst hx;exact h
 | .ifv,h,x,hx=>by simp[V.fl]at hx;subst hx;exact h
 | .undef,h,x,hx=>by simp[V.fl]at hx;subst hx;exact h
theorem FT (n:Nat):∀vs:List V,CW n vs=true→∀x∈Ad vs,x.away n=true
 |[],_,x,hx=>by simp[Ad]at hx
 |v::vs,h,x,hx=>by
  simp only[CW,Bool.and_eq_true]at h
  simp only[Ad,List.mem_append]at hx
  rcases hx with hx|hx
  ·exact JY n v h.1 x hx
  ·exact FT n vs h.2 x hx
end
mutual
theorem KU (n:Nat):∀v:V,v.clean=true→v.away n=true
 | .agg t fs,h=>by simp only[V.away];exact EG n fs (by simpa [V.clean]using h)
 | .tup fs,h=>by simp only[V.away];exact EG n fs (by simpa [V.clean]using h)
 | .row t fs,h=>by simp[V.clean]at h
 | .lst e f xs,h=>by cases f<;>first|rfl|(simp[V.clean]at h)
 | .bool _,h=>rfl
 | .int _ _,h=>rfl
 | .str _,h=>rfl
 | .win _ _ _ _ _,h=>by simp[V.clean]at h
 | .ref _ _ _,h=>by simp[V.clean]at h
 | .rop _ _,h=>by simp[V.clean]at h
 | .nilp,h=>rfl
 | .clo _ _,h=>by simp[V.clean]at h
 | .nilf,h=>rfl
 | .nili,h=>rfl
 | .ifv,h=>rfl
 | .undef,h=>by simp[V.clean]at h
theorem EG (n:Nat):∀vs:List V,AL vs=true→CW n vs=true
 |[],_=>rfl
 |v::vs,h=>by
  simp only[AL,Bool.and_eq_true]at h
  simp only[CW,Bool.and_eq_true]
  exact⟨KU n v h.1,EG n vs h.2⟩
end
theorem EZ {n i:Nat} {vs:List V} {v:V} (h:CW n vs=true) (hv:vs[i]?=some v):v.away n=true:=by
 induction vs generalizing i with
 |nil=>simp at hv
 |cons x vs ih=>
  simp only[CW,Bool.and_eq_true]at h
  cases i with
  |zero=>simp at hv;subst hv;exact h.1
  |succ i=>exact ih h.2 (by simpa using hv)
section
variable {P:Program} {A:Ann} {O:Orc} {g g':G} {w w':World}
theorem LR.awayTo {g2:G} {id:Nat} (hb:∀i,i≠id→g2.β[i]?=g.β[i]?) (ht:∀i,i≠id→g2.ty[i]?=g.ty[i]?) (hro:g2.ro=g.ro) (hlro:g2.lro=g.lro) {v:V} {c:Value} (h:LR P g w v c):
 v.away id=true→LR P g2 w v c:=by
 have lim:∀f b,g2.lim f b=g.lim f b:=fun f b=>by cases f<;>simp only[G.lim,hro,hlro]
 induction h with
 |bool b=>intro _;exact .bool b
 |int k n=>intro _;exact .int k n
 |str s=>intro _;exact .str s
 |nilp=>intro _;exact .nilp
 |nilf=>intro _;exact .nilf
 |nili=>intro _;exact .nili
 |ifv te pe=>intro _;exact .ifv te pe
 |undef c hc=>intro _;exact .undef c hc
 |nil e=>intro _;exact .nil e
 |emp e f a cap hf hs=>intro _;exact .emp e f a cap hf hs
 |lst e f xs b off cap cs hf h1 hcl hn hc hl hb' hr hcap ih=>
  intro h
  have haw:CW id xs=true:=by
   by_cases hff:f= .lent
   ·subst hff;simpa [V.away]using h
   ·exact EG id xs (hcl hff)
  exact .lst e f xs b off cap cs hf h1 hcl hn hc (fun j x c h1 h2=>ih j x c h1 h2 (FT id xs haw x (List.mem_of_getElem? h1))) hb' (by rw[lim];exact hr) hcap
 |win i p off len e bt o n b cap a1 a2 a3 a4 a5 a6=>
  intro h
  have hne:i≠id:=Nat.ne_of_beq_eq_false (by simpa [V.away]using h)
  exact .win i p off len e bt o n b cap (by rw[ht i hne];exact a1) a2 a3 (by rw[hb i hne];exact a4) a5 a6
 |win0 i p off e bt o n a cap a1 a2 a3 a4=>
  intro h
  have hne:i≠id:=Nat.ne_of_beq_eq_false (by simpa [V.away]using h)
  exact .win0 i p off e bt o n a cap (by rw[ht i hne];exact a1) a2 a3 a4
 |ref i p t bt o b h1 h2 h3=>
  intro h
  have hne:i≠id:=Nat.ne_of_beq_eq_false (by simpa [V.away]using h)
  exact .ref i p t bt o b (by rw[ht i hne];exact h1) h2 (by rw[hb i hne];exact h3)
 |rop t x b off cs h1 hn hc hl hb' hr ih=>
  intro h
  exact .rop t x b off cs h1 hn hc (fun j y c a1 a2=>ih j y c a1 a2 (JY id x (by simpa [V.away]using h) y (List.mem_of_getElem? a1))) hb' (by rw[hlro];exact hr)
 |clo f vs cs hn hl ih=>
  intro h
  exact .clo f vs cs hn fun j x c a1 a2=>ih j x c a1 a2 (EZ (by simpa [V.away]using h) a1)
theorem AR.awayTo {g2:G} {id:Nat} (hb:∀i,i≠id→g2.β[i]?=g.β[i]?) (ht:∀i,i≠id→g2.ty[i]?=g.ty[i]?) (hro:g2.ro=g.ro) (hlro:g2.lro=g.lro) {v:V} {c:Value} (h:AR P g w v c)
 (ha:v.away id=true):AR P g2 w v c:=by
 cases h with
 |leaf hl h=>exact .leaf hl (h.awayTo hb ht hro hlro ha)
 |agg h1 hn hl=>exact .agg h1 hn fun j x c a1 a2=>(hl j x c a1 a2).awayTo hb ht hro hlro (FT id _ (by simpa [V.away]using ha) x (List.mem_of_getElem? a1))
theorem VR.awayTo {g2:G} {id:Nat} (hb:∀i,i≠id→g2.β[i]?=g.β[i]?) (ht:∀i,i≠id→g2.ty[i]?=g.ty[i]?) (hro:g2.ro=g.ro) (hlro:g2.lro=g.lro) {v:V} {c:Value} (h:VR P g w v c)
 (ha:v.away id=true):VR P g2 w v c:=by
 cases h with
 |val h=>exact .val (h.awayTo hb ht hro hlro ha)
 |dead c=>exact .dead c
 |tup h1 h2 h3=>exact .tup h1 h2 fun j x c a1 a2=>(h3 j x c a1 a2).awayTo hb ht hro hlro (EZ (by simpa [V.away]using ha) a1)
def G.hide (g:G) (id b:Nat):G:={β:=g.β.set id none,ty:=g.ty.set id (.row 0 0),ro:=g.ro,lro:=g.lro,H:=fun x=>match g.H x with
 |some (.inr (bb,j))=>if bb=b then none else some (.inr (bb,j))
 |_=>none}
def G.unhide (g g':G) (id b:Nat) (bt:BT):G:={β:=g'.β.set id (some b),ty:=g'.ty.set id bt,ro:=g'.ro,lro:=g'.lro,H:=fun x=>match g.H x with
 |some (.inl i)=>some (.inl i)
 |some (.inr (bb,j))=>if bb=b then some (.inr (bb,j))else g'.H x
 |none=>g'.H x}
theorem BO {α:Type} {l:List α} {i j:Nat} {a:α} (h:j≠i):(l.set i a)[j]?=l[j]?:=by
 rw[List.getElem?_set];simp[Ne.symm h]
theorem set_self {α:Type} {l:List α} {i:Nat} {a:α} (h:i<l.length):(l.set i a)[i]?=some a:=by
 rw[List.getElem?_set];simp[h]
theorem Af {α:Type} {l:List α} {i:Nat} {a:α} (h:l[i]?=some a):i<l.length:=by
 rcases Nat.lt_or_ge i l.length with h'|h'
 ·exact h'
 ·rw[List.getElem?_eq_none h']at h;cases h
theorem P6 {α:Type} {l m:List α} {i:Nat} {a b:α} (h:l[i]?=some a):(l.set i b++m).set i a=l++m:=by
 have hi:=Af h
 apply List.ext_getElem?
 intro j
 by_cases hj:j=i
 ·subst hj
  rw[set_self (by simp;omega),List.getElem?_append_left hi,h]
 ·rw[BO hj]
  rcases Nat.lt_or_ge j l.length with h1|h1
  ·rw[List.getElem?_append_left (by simpa using h1),List.getElem?_append_left h1,BO hj]
  ·rw[List.getElem?_append_right (by simpa using h1),List.getElem?_append_right h1];simp
theorem Yq (FO:FnOk P A) {st:St} {tm:Array Value} (S:SR P A g w st tm) {id b:Nat} (hb:g.β[id]?=some (some b)) (haw:CW id (st.h.set id void)=true):
 BX P (g.hide id b) w (st.h.set id void)∧WG (g.hide id b) w∧GlobOk P A (g.hide id b) w:=by
 have hlt:id<g.β.length:=Af hb
 have hlh:id<st.h.length:=by rw[S.box.len];exact hlt
 have hlt':id<g.ty.length:=by rw[←S.box.tys];exact hlh
 have nb:∀i,i≠id→(g.hide id b).β[i]?=g.β[i]?:=fun i h=>BO h
 have nt:∀i,i≠id→(g.hide id b).ty[i]?=g.ty[i]?:=fun i h=>BO h
 have ni:∀{i b'},(g.hide id b).β[i]?=some (some b')→i≠id:=by
  rintro i b' h rfl
  simp only[G.hide]at h
  rw[set_self hlt]at h;cases h
 refine⟨⟨by simp[G.hide,S.box.len],by simp[G.hide,S.box.tys],fun i j b' h1 h2=> ?_,fun i v bt h1 h2=> ?_,fun i v h1 h2=> ?_,fun i v h1=> ?_,fun i v b' h1 h2=> ?_⟩,
  ⟨fun x hx=> ?_,fun i x hx=> ?_,S.wg.le⟩,fun i t v hi=>⟨(S.glob i t v hi).1.awayTo nb nt rfl rfl (by simp only[V.away];exact KU id v (FO.glob i t v hi)),by simp only[G.hide,(S.glob i t v hi).2.1],fun hm=>(List.mem_or_eq_of_mem_set hm).elim (S.glob i t v hi).2.2.1 (fun e=>by cases e),(S.glob i t v hi).2.2.2⟩⟩
 ·have n1:=ni h1;have n2:=ni h2
  rw[nb i n1]at h1;rw[nb j n2]at h2
  exact S.box.inj i j b' h1 h2
 ·by_cases hi:i=id
  ·subst hi
   rw[set_self hlh]at h1
   simp only[G.hide]at h2
   rw[set_self hlt']at h2
   cases h1;cases h2
   exact⟨[],rfl,rfl,by simp⟩
  ·rw[BO hi]at h1;rw[nt i hi]at h2
   exact S.box.has i v bt h1 h2
 ·by_cases hi:i=id
  ·subst hi
   rw[set_self hlh]at h1
   cases h1;rfl
  ·rw[BO hi]at h1;rw[nb i hi]at h2
   exact S.box.void i v h1 h2
 ·by_cases hi:i=id
  ·subst hi
   rw[set_self hlh]at h1
   cases h1;rfl
  ·rw[BO hi]at h1
   exact S.box.low i v h1
 ·have hi:=ni h2
  have hav:=EZ haw h1
  rw[BO hi]at h1;rw[nb i hi]at h2
  obtain⟨cs,e,fz,c1,c2,c3,c4⟩:=S.box.cells i v b' h1 h2
  refine⟨cs,e,fz,c1,c2,c3,fun j x hx=> ?_⟩
  obtain⟨c,d1,d2,d3⟩:=c4 j x hx
  refine⟨c,d1,d2.awayTo nb nt rfl rfl (JY id v hav x (List.mem_of_getElem? hx)),fun e xs hh=> ?_⟩
  rcases d3 e xs hh with h|⟨bb,off,len,cap,cs,e',fz,k1,k2,k3,k4,k5,k6,k7,k8⟩
  ·exact .inl h
  ·have hbb:b'≠b:=by rintro rfl;exact hi (S.box.inj i id b' h2 hb)
   refine .inr ⟨bb,off,len,cap,cs,e',fz,k1,by simp[G.hide,k2,hbb],fun hm=> ?_,k4,k5,k6,k7,k8⟩
   rcases List.mem_or_eq_of_mem_set hm with hm|hm
   ·exact k3 hm
   ·cases hm
 ·obtain⟨h1,h2,h3⟩:=S.wg.fresh x hx
  exact⟨by simp[G.hide,h1],h2,h3⟩
 ·have hi:=ni hx
  rw[nb i hi]at hx
  obtain⟨h1,h2,h3,h4⟩:=S.wg.box i x hx
  exact⟨h1,h2,h3,by simp[G.hide,h4]⟩
theorem UU {st:St} {tm:Array Value} (S:SR P A g w st tm) {id b:Nat} {v:V} {bt:BT} (hb:g.β[id]?=some (some b)) (hbt:g.ty[id]?=some bt) (hv:st.h[id]?=some v)
 (E:Ext (g.hide id b) w g' w') {h':List V} (B:BX P g' w' h') (W:WG g' w') (haw:CW id h'=true):
 Ext g w (g.unhide g' id b bt) w'∧SR P A (g.unhide g' id b bt) w' {st with h:=h'.set id v} tm∧
 (∀{x:V} {c:Value},x.away id=true→VR P g' w' x c→VR P (g.unhide g' id b bt) w' x c)∧
 (∀{e:TypeId} {n:Nat} {c:Value} {l:Nat⊕(Nat×Nat)},Own P g' w' e n c l→Own P (g.unhide g' id b bt) w' e n c l):=by
 have hlt:id<g.β.length:=Af hb
 have hlh:id<st.h.length:=by rw[S.box.len];exact hlt
 have hltt:id<g.ty.length:=by rw[←S.box.tys];exact hlh
 obtain⟨lb,hlb⟩:=E.beta
 obtain⟨lt,hlt'⟩:=E.typ
 have hltb:id<g'.β.length:=by rw[hlb];simp[G.hide];omega
 have hltt':id<g'.ty.length:=by rw[hlt'];simp[G.hide];omega
 have hlh':id<h'.length:=by rw[B.len];exact hltb
 have hmemb:some b∈g.β:=List.mem_of_getElem? hb
 obtain⟨wb1,wb2,wb3,wb4⟩:=S.wg.box id b hb
 have nb:∀i,i≠id→(g.unhide g' id b bt).β[i]?=g'.β[i]?:=fun i h=>BO h
 have nt:∀i,i≠id→(g.unhide g' id b bt).ty[i]?=g'.ty[i]?:=fun i h=>BO h
 have hbn:some b∉(g.hide id b).β:=by
  intro hm
  obtain⟨k,hk,hkk⟩:=List.mem_iff_getElem.1 hm
  have hk':(g.hide id b).β[k]?=some (some b):=by rw[List.getElem?_eq_getElem hk,hkk]
  by_cases hki:k=id
  ·subst hki;simp only[G.hide]at hk';rw[set_self hlt]at hk';cases hk'
  ·simp only[G.hide]at hk';rw[BO hki]at hk'
   exact hki (S.box.inj k id b hk' hb)
 obtain⟨sb1,sb2,sb3,sb4,sb5⟩:=E.same b wb1 (by simp[G.hide,wb4]) hbn
 have sub:∀{x},some x∉g.β→some x∉(g.hide id b).β:=by
  intro x hx hm
  rcases List.mem_or_eq_of_mem_set hm with hm|hm
  ·exact hx hm
  ·cases hm
 have lts:∀{x l},g.H x=some l→x<w.heap.size:=by
  intro x l hx
  rcases Nat.lt_or_ge x w.heap.size with h|h
  ·exact h
  ·rw[(S.wg.fresh x h).1]at hx;cases hx
 have nobox:∀{x l},g.H x=some l→some x∉g.β:=by
  intro x l hx hm
  obtain⟨k,hk,hkk⟩:=List.mem_iff_getElem.1 hm
  have:=(S.wg.box k x (by rw[List.getElem?_eq_getElem hk,hkk])).2.2.2
  rw[this]at hx;cases hx
 have gone:∀{x l},g.H x=some l→(∀bb j,l= .inr (bb,j)→bb=b)→w'.heap[x]?=w.heap[x]?∧g'.H x=none∧some x∉g'.β∧g'.ro x=g.ro x∧g'.lro x=g.lro x:=by
  intro x l hx hl
  refine E.same x (lts hx) ?_ (sub (nobox hx))
  simp only[G.hide,hx]
  cases l with
  |inl i=>rfl
  |inr p=>obtain⟨bb,j⟩:=p;have:=hl bb j rfl;subst this;simp
 have notb:∀{x},some x∉g'.β→x≠b→some x∉(g.unhide g' id b bt).β:=by
  intro x hx hne hm
  rcases List.mem_or_eq_of_mem_set hm with hm|hm
  ·exact hx hm
  ·cases hm;exact hne rfl
 have upH:∀{x l},g'.H x=some l→(g.unhide g' id b bt).H x=some l:=by
  intro x l hx
  simp only[G.unhide]
  split
  ·rename_i i hi
   have:=(gone hi (by simp)).2.1
   rw[hx]at this;cases this
  ·rename_i bb j hi
   split
   ·rename_i hbb
    subst hbb
    have:=(gone hi (by rintro _ _ ⟨⟩;rfl)).2.1
    rw[hx]at this;cases this
   ·exact hx
  ·exact hx
 have own:∀{e:TypeId} {n:Nat} {c:Value} {l:Nat⊕(Nat×Nat)},Own P g' w' e n c l→Own P (g.unhide g' id b bt) w' e n c l:=by
  intro e n c l h
  rcases h with h|⟨x,off,len,cap,cs,e',fz,h1,h2,h3,h4,h5,h6,h7,h8⟩
  ·exact .inl h
  ·exact .inr ⟨x,off,len,cap,cs,e',fz,h1,upH h2,notb h3 (by rintro rfl;rw[sb2]at h2;cases h2),h4,h5,h6,h7,h8⟩
 have oldOwn:∀{e:TypeId} {n:Nat} {c:Value} {l:Nat⊕(Nat×Nat)},(∀bb j,l= .inr (bb,j)→bb=b)→Own P g w e n c l→Own P (g.unhide g' id b bt) w' e n c l:=by
  intro e n c l hl h
  rcases h with h|⟨x,off,len,cap,cs,e',fz,h1,h2,h3,h4,h5,h6,h7,h8⟩
  ·exact .inl h
  ·obtain⟨a1,a2,a3,a4,a5⟩:=gone h2 hl
   refine .inr ⟨x,off,len,cap,cs,e',fz,h1,?_,notb a3 (by rintro rfl;rw[wb4]at h2;cases h2),by rw[a1];exact h4,h5,fun j hj=>by rw[A7 a1];exact h6 j hj,
    by show g'.ro x=_;rw[a4];exact h7,by show g'.lro x=g'.ro x;rw[a4,a5];exact h8⟩
   cases l with
   |inl i=>simp[G.unhide,h2]
   |inr p=>obtain⟨bb,j⟩:=p;have:=hl bb j rfl;subst this;simp[G.unhide,h2]
 have E':Ext g w (g.unhide g' id b bt) w':=by
  refine⟨E.os,E.tape,E.out,E.size,fun x hx h1 h2=> ?_,fun x hx=> ?_,⟨lb,?_⟩,⟨lt,?_⟩,E.bsz⟩
  ·obtain⟨a1,a2,a3,a4,a5⟩:=E.same x hx (by simp[G.hide,h1]) (sub h2)
   exact⟨a1,by simp[G.unhide,h1,a2],notb a3 (by rintro rfl;exact h2 hmemb),a4,a5⟩
  ·obtain⟨a1,a2,a3,a4⟩:=E.keep x hx
   exact⟨a1,a2,a3,fun h=>notb (a4 (sub h)) (by rintro rfl;exact h hmemb)⟩
  ·simp only[G.unhide,hlb,G.hide];exact P6 hb
  ·simp only[G.unhide,hlt',G.hide];exact P6 hbt
 refine⟨E',⟨fun i=>(S.slot i).ext E' S.wg,fun i e xs hi=>oldOwn (by simp) (S.own i e xs hi),S.nown,?_,?_,S.glob.ext E' S.wg⟩,fun ha h=>h.awayTo nb nt rfl rfl ha,own⟩
 ·refine⟨by simp[G.unhide,B.len],by simp[G.unhide,B.tys],fun i j x h1 h2=> ?_,fun i y t h1 h2=> ?_,fun i y h1 h2=> ?_,fun i y h1=> ?_,fun i y x h1 h2=> ?_⟩
  ·by_cases hi:i=id
   ·by_cases hj:j=id
    ·rw[hi,hj]
    ·subst hi
     simp only[G.unhide]at h1;rw[set_self hltb]at h1;cases h1
     rw[nb j hj]at h2
     exact(sb3 (List.mem_of_getElem? h2)).elim
   ·by_cases hj:j=id
    ·subst hj
     simp only[G.unhide]at h2;rw[set_self hltb]at h2;cases h2
     rw[nb i hi]at h1
     exact(sb3 (List.mem_of_getElem? h1)).elim
    ·rw[nb i hi]at h1;rw[nb j hj]at h2
     exact B.inj i j x h1 h2
  ·by_cases hi:i=id
   ·subst hi
    rw[set_self hlh']at h1
    simp only[G.unhide]at h2;rw[set_self hltt']at h2
    cases h1;cases h2
    exact S.box.has i v bt hv hbt
   ·rw[BO hi]at h1;rw[nt i hi]at h2
    exact B.has i y t h1 h2
  ·by_cases hi:i=id
   ·subst hi
    simp only[G.unhide]at h2;rw[set_self hltb]at h2;cases h2
   ·rw[BO hi]at h1;rw[nb i hi]at h2
    exact B.void i y h1 h2
  ·by_cases hi:i=id
   ·subst hi
    rw[set_self hlh']at h1
    cases h1
    exact S.box.low i v hv
   ·rw[BO hi]at h1
    exact B.low i y h1
  ·by_cases hi:i=id
   ·subst hi
    rw[set_self hlh']at h1;cases h1
    simp only[G.unhide]at h2;rw[set_self hltb]at h2;cases h2
    obtain⟨cs,e,fz,c1,c2,c3,c4⟩:=S.box.cells i v b hv hb
    refine⟨cs,e,fz,by rw[sb1];exact c1,c2,fun j hj=>by rw[A7 sb1];exact c3 j hj,fun j y hy=> ?_⟩
    obtain⟨c,d1,d2,d3⟩:=c4 j y hy
    exact⟨c,d1,d2.ext E' S.wg,fun e xs hh=>oldOwn (by rintro _ _ ⟨⟩;rfl) (d3 e xs hh)⟩
   ·have hav:y.away id=true:=by rw[BO hi]at h1;exact EZ haw h1
    rw[BO hi]at h1;rw[nb i hi]at h2
    obtain⟨cs,e,fz,c1,c2,c3,c4⟩:=B.cells i y x h1 h2
    refine⟨cs,e,fz,c1,c2,c3,fun j z hz=> ?_⟩
    obtain⟨c,d1,d2,d3⟩:=c4 j z hz
    exact⟨c,d1,d2.awayTo nb nt rfl rfl (JY id y hav z (List.mem_of_getElem? hz)),fun e xs hh=>own (d3 e xs hh)⟩
 ·refine⟨fun x hx=> ?_,fun i x hx=> ?_,W.le⟩
  ·obtain⟨h1,h2,h3⟩:=W.fresh x hx
   refine⟨?_,h2,h3⟩
   have hsz:=E.size
   simp only[G.unhide]
   split
   ·rename_i i hi;have:=lts hi;omega
   ·rename_i bb j hi;have:=lts hi;omega
   ·exact h1
  ·by_cases hi:i=id
   ·subst hi
    simp only[G.unhide]at hx;rw[set_self hltb]at hx;cases hx
    refine⟨Nat.lt_of_lt_of_le wb1 E.size,?_,?_,?_⟩
    ·show g'.ro b=0;rw[sb4];exact wb2
    ·show g'.lro b=0;rw[sb5];exact wb3
    ·simp[G.unhide,wb4,sb2]
   ·rw[nb i hi]at hx
    obtain⟨h1,h2,h3,h4⟩:=W.box i x hx
    refine⟨h1,h2,h3,?_⟩
    have hm:=List.mem_of_getElem? hx
    simp only[G.unhide]
    split
    ·rename_i k hk;exact((gone hk (by simp)).2.2.1 hm).elim
    ·rename_i bb j hk
     split
     ·rename_i hbb;subst hbb
      exact((gone hk (by rintro _ _ ⟨⟩;rfl)).2.2.1 hm).elim
     ·exact h4
    ·exact h4
theorem UW (L:Lay P) (FO:FnOk P A) (HO:Bl P A O) {R:Type} {st:St} {tm:Array Value} {hd:Option V} {xv:V} {vs:List V} {cx:Value} {ar:Array Value} {k:V→List V→Option R} {r:R} (l:Nat⊕(Nat×Nat))
 (S:SR P A g w st tm) (hhd:∀x,hd=some x→∃c,VR P g w x c) (hx:VR P g w xv cx) (hn:vs.length=ar.size) (hv:∀(i:Nat) (v:V) (c:Value),vs[i]?=some v→ar[i]?=some c→VR P g w v c)
 (h:Eg P A O hd xv vs st.h k=some r):
 Inv P cx ar w fun c w'=>∃v h' g',k v h'=some r∧Ext g w g' w'∧SR P A g' w' {st with h:=h'} tm∧VR P g' w' v c∧(∀e xs,v= .lst e .own xs→Own P g' w' e xs.length c l)∧((∃e xs,v= .lst e .own xs)∨v.noOwn=true)∧(∀f cs,xv= .clo f cs→A.ret f≠ .own→v.noOwn=true):=by
 unfold Eg at h
 split at h
 ·exact IY L FO HO l S hx hn hv h
 ·rename_i id p t
  obtain⟨chd,hhd'⟩:=hhd _ rfl
  split at h
  ·rename_i y hy
   split at h
   ·rename_i hok
    simp only[Bool.and_eq_true]at hok
    obtain⟨⟨o1,o2⟩,o3⟩:=hok
    obtain⟨b,bt,hb,hbt⟩:∃b bt,g.β[id]?=some (some b)∧g.ty[id]?=some bt:=by
     cases hhd'.leaf' rfl (by simp)with
     |ref _ _ _ bt o b h1 h2 h3=>exact⟨b,bt,h3,h1⟩
    obtain⟨B0,W0,G0⟩:=Yq FO S hb o3
    have nb:∀i,i≠id→(g.hide id b).β[i]?=g.β[i]?:=fun i h=>BO h
    have nt:∀i,i≠id→(g.hide id b).ty[i]?=g.ty[i]?:=fun i h=>BO h
    have S0:SR P A (g.hide id b) w ⟨[],st.h.set id void⟩ tm:=
     ⟨fun i=> .dead _,fun i e xs hi=>by simp[St.get,look]at hi,fun i=> .inr rfl,B0,W0,G0⟩
    have:=IY L FO HO l S0 (hx.awayTo nb nt rfl rfl o1) hn (fun i v c h1 h2=>(hv i v c h1 h2).awayTo nb nt rfl rfl (EZ o2 h1)) h
    refine this.mono fun c w' hh=> ?_
    obtain⟨v,h',g',hk,E,S',q1,q2,q3,q4⟩:=hh
    split at hk
    ·rename_i hok2
     simp only[Bool.and_eq_true]at hok2
     obtain⟨E',S'',hV,hO⟩:=UU S hb hbt hy E S'.box S'.wg hok2.1.2
     exact⟨v,_,_,hk,E',S'',hV hok2.1.1 q1,fun e xs hh=>hO (q2 e xs hh),q3,q4⟩
    ·cases hk
   ·cases h
  ·cases h
 ·cases h
theorem Ai {α:Type} {l:List α} {n i:Nat} {a:α}:(l.take n)[i]?=some a↔i<n∧l[i]?=some a:=by
 rw[List.getElem?_take]
 constructor
 ·intro h
  split at h
  ·exact⟨by assumption,h⟩
  ·cases h
 ·rintro ⟨h1,h2⟩;rw[if_pos h1];exact h2
theorem FU {n i:Nat} {vs:List V} {v:V} (h:AU n vs=true) (hv:vs[i]?=some v):v.under n=true:=by
 induction vs generalizing i with
 |nil=>simp at hv
 |cons x vs ih=>
  simp only[AU,Bool.and_eq_true]at h
  cases i with
  |zero=>simp at hv;subst hv;exact h.1
  |succ i=>exact ih h.2 (by simpa using hv)
theorem LR.cutTo {g2:G} {n:Nat} (hb:∀i b,i<n→g.β[i]?=some b→g2.β[i]?=some b) (ht:∀i b,i<n→g.ty[i]?=some b→g2.ty[i]?=some b) (hro:g2.ro=g.ro) (hlro:g2.lro=g.lro) {v:V} {c:Value} (hv:LR P g w v c):v.under n=true→LR P g2 w v c:=by
 have lim:∀f b,g2.lim f b=g.lim f b:=fun f b=>by cases f<;>simp only[G.lim,hro,hlro]
 induction hv with
 |bool b=>intro _;exact .bool b
 |int k n=>intro _;exact .int k n
 |str s=>intro _;exact .str s
 |nilp=>intro _;exact .nilp
 |nilf=>intro _;exact .nilf
 |nili=>intro _;exact .nili
 |ifv te pe=>intro _;exact .ifv te pe
 |undef c hc=>intro _;exact .undef c hc
 |nil e=>intro _;exact .nil e
 |emp e f a cap hf hs=>intro _;exact .emp e f a cap hf hs
 |lst e f xs b off cap cs hf h1 hcl hn hc hl hb' hr hcap ih=>
  intro hu
  have hxs:AU n xs=true:=by
   by_cases hff:f= .lent
   ·subst hff;simpa [V.under]using hu
   ·exact BJ n xs (hcl hff)
  rw[Ce,List.all_eq_true]at hxs
  exact .lst e f xs b off cap cs hf h1 hcl hn hc (fun j x c h1 h2=>ih j x c h1 h2 (hxs x (List.mem_of_getElem? h1))) hb' (by rw[lim];exact hr) hcap
 |win id p off len e bt o n' b cap a1 a2 a3 a4 a5 a6=>
  intro hu
  have hlt:id<n:=by simpa [V.under]using hu
  exact .win id p off len e bt o n' b cap (ht _ _ hlt a1) a2 a3 (hb _ _ hlt a4) a5 a6
 |win0 id p off e bt o n' a cap a1 a2 a3 a4=>
  intro hu
  have hlt:id<n:=by simpa [V.under]using hu
  exact .win0 id p off e bt o n' a cap (ht _ _ hlt a1) a2 a3 a4
 |ref id p t bt o b h1 h2 h3=>
  intro hu
  have hlt:id<n:=by simpa [V.under]using hu
  exact .ref id p t bt o b (ht _ _ hlt h1) h2 (hb _ _ hlt h3)
 |rop t x b off cs h1 hn hc hl hb' hr ih=>
  intro hu
  have hx:x.under n=true:=by simpa [V.under]using hu
  rw[Aw,List.all_eq_true]at hx
  exact .rop t x b off cs h1 hn hc (fun j y c a1 a2=>ih j y c a1 a2 (hx y (List.mem_of_getElem? a1))) hb' (by rw[hlro];exact hr)
 |clo f vs cs hn hl ih=>
  intro hu
  have hx:AU n vs=true:=by simpa [V.under]using hu
  exact .clo f vs cs hn fun j x c h1 h2=>ih j x c h1 h2 (FU hx h1)
theorem AR.cutTo {g2:G} {n:Nat} (hb:∀i b,i<n→g.β[i]?=some b→g2.β[i]?=some b) (ht:∀i b,i<n→g.ty[i]?=some b→g2.ty[i]?=some b) (hro:g2.ro=g.ro) (hlro:g2.lro=g.lro) {v:V} {c:Value} (hv:AR P g w v c) (hu:v.under n=true):AR P g2 w v c:=by
 cases hv with
 |leaf hl h=>exact .leaf hl (h.cutTo hb ht hro hlro hu)
 |agg h1 hn hl=>
  rw[Aw,List.all_eq_true]at hu
  exact .agg h1 hn fun j x c a b=>(hl j x c a b).cutTo hb ht hro hlro (hu x (by simp only[V.fl];exact List.mem_of_getElem? a))
theorem VR.cutTo {g2:G} {n:Nat} (hb:∀i b,i<n→g.β[i]?=some b→g2.β[i]?=some b) (ht:∀i b,i<n→g.ty[i]?=some b→g2.ty[i]?=some b) (hro:g2.ro=g.ro) (hlro:g2.lro=g.lro) {v:V} {c:Value} (hv:VR P g w v c) (hu:v.under n=true):VR P g2 w v c:=by
 cases hv with
 |val h=>exact .val (h.cutTo hb ht hro hlro hu)
 |dead c=>exact .dead c
 |tup h1 h2 h3=>exact .tup h1 h2 fun j x c a b=>(h3 j x c a b).cutTo hb ht hro hlro (FU (by simpa [V.under]using hu) a)
theorem LR.low {v:V} {c:Value} (hv:LR P g w v c) (hl:g.β.length=g.ty.length):v.under g.β.length=true:=by
 induction hv with
 |lst e f xs b off cap cs hf h1 hcl hn hc hl' hb' hr hcap ih=>
  by_cases hff:f= .lent
  ·subst hff
   simp only[V.under]
   rw[Ce,List.all_eq_true]
   intro x hx
   obtain⟨j,hj,rfl⟩:=List.mem_iff_getElem.1 hx
   exact ih j _ _ (List.getElem?_eq_getElem hj) (List.getElem?_eq_getElem (by omega))
  ·exact Cc _ _ (by cases f<;>first|exact absurd rfl hff|rfl)
 |emp e f a cap hf hs=>cases f<;>rfl
 |win id p off len e bt o n' b cap a1 a2 a3 a4 a5 a6=>simpa [V.under]using Af a4
 |win0 id p off e bt o n' a cap a1 a2 a3 a4=>simpa [V.under,hl]using Af a1
 |ref id p t bt o b h1 h2 h3=>simpa [V.under]using Af h3
 |rop t x b off cs h1 hn hc hl' hb' hr ih=>
  simp only[V.under]
  rw[Aw,List.all_eq_true]
  intro y hy
  obtain⟨j,hj,rfl⟩:=List.mem_iff_getElem.1 hy
  exact ih j _ _ (List.getElem?_eq_getElem hj) (List.getElem?_eq_getElem (by omega))
 |clo f vs cs hn hl' ih=>
  simp only[V.under]
  have key:∀(l:List V),(∀x∈l,x.under g.β.length=true)→AU g.β.length l=true:=by
   intro l
   induction l with
   |nil=>intro _;rfl
   |cons x l ih2=>intro h;simp only[AU,h x (by simp),ih2 fun y hy=>h y (by simp[hy]),Bool.and_self]
  refine key vs fun x hx=> ?_
  obtain⟨j,hj,rfl⟩:=List.mem_iff_getElem.1 hx
  exact ih j _ _ (List.getElem?_eq_getElem hj) (List.getElem?_eq_getElem (by omega))
 |_=>rfl
theorem VR.low {v:V} {c:Value} (hv:VR P g w v c) (hl:g.β.length=g.ty.length):v.under g.β.length=true:=by
 have ar:∀{v:V} {c:Value},AR P g w v c→v.under g.β.length=true:=by
  intro v c h
  cases h with
  |leaf _ h=>exact h.low hl
  |agg h1 hn hl'=>
   rw[Aw,List.all_eq_true]
   intro x hx
   simp only[V.fl]at hx
   obtain⟨j,hj,rfl⟩:=List.mem_iff_getElem.1 hx
   exact(hl' j _ _ (List.getElem?_eq_getElem hj) (List.getElem?_eq_getElem (by omega))).low hl
 cases hv with
 |val h=>exact ar h
 |dead c=>rfl
 |tup h1 h2 h3=>
  rename_i vs cs
  simp only[V.under]
  have key:∀(l:List V),(∀x∈l,x.under g.β.length=true)→AU g.β.length l=true:=by
   intro l
   induction l with
   |nil=>intro _;rfl
   |cons x l ih2=>intro h;simp only[AU,h x (by simp),ih2 fun y hy=>h y (by simp[hy]),Bool.and_self]
  refine key vs fun x hx=> ?_
  obtain⟨j,hj,rfl⟩:=List.mem_iff_getElem.1 hx
  exact ar (h3 j _ _ (List.getElem?_eq_getElem hj) (List.getElem?_eq_getElem (by omega)))
def G.cut (g:G) (n:Nat):G:={β:=g.β.take n,ty:=g.ty.take n,ro:=g.ro,lro:=g.lro,H:=fun x=>match g.H x with
 |some (.inr (bb,j))=>if some bb∈g.β.take n then some (.inr (bb,j))else none
 |_=>none}
def G.uncut (g g':G) (n:Nat):G:={β:=g.β,ty:=g.ty,ro:=g'.ro,lro:=g'.lro,H:=fun x=>match g.H x with
 |some (.inl i)=>some (.inl i)
 |some (.inr (bb,j))=>if some bb∈g.β.take n then g'.H x else some (.inr (bb,j))
 |none=>g'.H x}
theorem AAV (FO:FnOk P A) {st:St} {tm:Array Value} (S:SR P A g w st tm) (n:Nat):
 BX P (g.cut n) w (st.h.take n)∧WG (g.cut n) w∧GlobOk P A (g.cut n) w:=by
 have hb:∀i b,i<n→g.β[i]?=some b→(g.cut n).β[i]?=some b:=fun i b h1 h2=>Ai.2 ⟨h1,h2⟩
 have ht:∀i b,i<n→g.ty[i]?=some b→(g.cut n).ty[i]?=some b:=fun i b h1 h2=>Ai.2 ⟨h1,h2⟩
 refine⟨⟨by simp[G.cut,S.box.len],by simp[G.cut,S.box.tys],fun i j b h1 h2=>S.box.inj i j b (Ai.1 h1).2 (Ai.1 h2).2,fun i v bt h1 h2=>S.box.has i v bt (Ai.1 h1).2 (Ai.1 h2).2,
  fun i v h1 h2=>S.box.void i v (Ai.1 h1).2 (Ai.1 h2).2,fun i v h1=>S.box.low i v (Ai.1 h1).2,fun i v b h1 h2=> ?_⟩,
  ⟨fun x hx=> ?_,fun i x hx=> ?_,S.wg.le⟩,
  fun i t v hi=>⟨(S.glob i t v hi).1.cutTo hb ht rfl rfl (by simp only[V.under];exact Cc n v (FO.glob i t v hi)),by simp only[G.cut,(S.glob i t v hi).2.1],fun hm=>(S.glob i t v hi).2.2.1 (List.mem_of_mem_take hm),(S.glob i t v hi).2.2.2⟩⟩
 ·obtain⟨hlt,h1⟩:=Ai.1 h1
  obtain⟨_,h2'⟩:=Ai.1 h2
  obtain⟨cs,e,fz,c1,c2,c3,c4⟩:=S.box.cells i v b h1 h2'
  refine⟨cs,e,fz,c1,c2,c3,fun j x hx=> ?_⟩
  obtain⟨c,d1,d2,d3⟩:=c4 j x hx
  have hu:=DK (n:=i+1) (m:=n) (by omega) v (S.box.low i v h1)
  rw[Aw,List.all_eq_true]at hu
  refine⟨c,d1,d2.cutTo hb ht rfl rfl (hu x (List.mem_of_getElem? hx)),fun e xs hh=> ?_⟩
  rcases d3 e xs hh with h|⟨bb,off,len,cap,cs,e',fz,k1,k2,k3,k4,k5,k6,k7,k8⟩
  ·exact .inl h
  ·have hm:some b∈g.β.take n:=List.mem_of_getElem? h2
   exact .inr ⟨bb,off,len,cap,cs,e',fz,k1,by simp only[G.cut,k2,if_pos hm],fun hm=>k3 (List.mem_of_mem_take hm),k4,k5,k6,k7,k8⟩
 ·obtain⟨h1,h2,h3⟩:=S.wg.fresh x hx
  exact⟨by simp only[G.cut,h1],h2,h3⟩
 ·obtain⟨h1,h2,h3,h4⟩:=S.wg.box i x (Ai.1 hx).2
  exact⟨h1,h2,h3,by simp only[G.cut,h4]⟩
theorem XC {st:St} {tm:Array Value} (S:SR P A g w st tm) {n:Nat} (hn:n≤st.h.length)
 (E:Ext (g.cut n) w g' w') {h':List V} (B:BX P g' w' h') (W:WG g' w') (hlen:h'.length=n):
 Ext g w (g.uncut g' n) w'∧SR P A (g.uncut g' n) w' {st with h:=h'++st.h.drop n} tm∧
 (∀{x:V} {c:Value},VR P g' w' x c→VR P (g.uncut g' n) w' x c)∧
 (∀{e:TypeId} {n':Nat} {c:Value} {l:Nat⊕(Nat×Nat)},Own P g' w' e n' c l→Own P (g.uncut g' n) w' e n' c l):=by
 have gl:st.h.length=g.β.length:=S.box.len
 have gt:st.h.length=g.ty.length:=S.box.tys
 have b':g'.β=g.β.take n:=by
  obtain⟨lb,hlb⟩:=E.beta
  have h1:g'.β.length=n:=by rw[←B.len];exact hlen
  have h2:(g.cut n).β.length=n:=by simp[G.cut];omega
  have:lb=[]:=by
   rw[hlb,List.length_append,h2]at h1
   exact List.length_eq_zero_iff.1 (by omega)
  rw[hlb,this,List.append_nil];rfl
 have t':g'.ty=g.ty.take n:=by
  obtain⟨lb,hlb⟩:=E.typ
  have h1:g'.ty.length=n:=by rw[←B.tys];exact hlen
  have h2:(g.cut n).ty.length=n:=by simp[G.cut];omega
  have:lb=[]:=by
   rw[hlb,List.length_append,h2]at h1
   exact List.length_eq_zero_iff.1 (by omega)
  rw[hlb,this,List.append_nil];rfl
 have nb:∀{i b},g'.β[i]?=some b→i<n∧g.β[i]?=some b:=fun h=>by rw[b']at h;exact Ai.1 h
 have hb:∀i b,i<n→g'.β[i]?=some b→(g.uncut g' n).β[i]?=some b:=fun i b _ h=>(nb h).2
 have ht:∀i b,i<n→g'.ty[i]?=some b→(g.uncut g' n).ty[i]?=some b:=fun i b _ h=>by rw[t']at h;exact(Ai.1 h).2
 have glen:g'.β.length=n:=by rw[←B.len];exact hlen
 have glt:g'.β.length=g'.ty.length:=by rw[←B.len,B.tys]
 have lts:∀{x l},g.H x=some l→x<w.heap.size:=by
  intro x l hx
  rcases Nat.lt_or_ge x w.heap.size with h|h
  ·exact h
  ·rw[(S.wg.fresh x h).1]at hx;cases hx
 have nobox:∀{x l},g.H x=some l→some x∉g.β:=by
  intro x l hx hm
  obtain⟨k,hk,hkk⟩:=List.mem_iff_getElem.1 hm
  have:=(S.wg.box k x (by rw[List.getElem?_eq_getElem hk,hkk])).2.2.2
  rw[this]at hx;cases hx
 have gone:∀{x l},g.H x=some l→(∀bb j,l= .inr (bb,j)→some bb∉g.β.take n)→w'.heap[x]?=w.heap[x]?∧g'.H x=none∧some x∉g'.β∧g'.ro x=g.ro x∧g'.lro x=g.lro x:=by
  intro x l hx hl
  refine E.same x (lts hx) ?_ (fun hm=>nobox hx (List.mem_of_mem_take hm))
  simp only[G.cut,hx]
  cases l with
  |inl i=>rfl
  |inr p=>obtain⟨bb,j⟩:=p;exact if_neg (hl bb j rfl)
 have far:∀{i b},n≤i→g.β[i]?=some (some b)→w'.heap[b]?=w.heap[b]?∧g'.H b=none∧some b∉g'.β∧g'.ro b=g.ro b∧g'.lro b=g.lro b:=by
  intro i b hi hib
  obtain⟨w1,w2,w3,w4⟩:=S.wg.box i b hib
  refine E.same b w1 (by simp only[G.cut,w4]) fun hm=> ?_
  obtain⟨k,hk,hkk⟩:=List.mem_iff_getElem.1 hm
  have hk':(g.cut n).β[k]?=some (some b):=by rw[List.getElem?_eq_getElem hk,hkk]
  obtain⟨k1,k2⟩:=Ai.1 hk'
  have:=S.box.inj k i b k2 hib
  omega
 have notb:∀{x},some x∉g'.β→(∀i,n≤i→g.β[i]?≠some (some x))→some x∉(g.uncut g' n).β:=by
  intro x h1 h2 hm
  obtain⟨k,hk,hkk⟩:=List.mem_iff_getElem.1 hm
  have hk':g.β[k]?=some (some x):=by rw[←hkk];exact List.getElem?_eq_getElem hk
  rcases Nat.lt_or_ge k n with h|h
  ·exact h1 (by rw[b'];exact List.mem_of_getElem? (Ai.2 ⟨h,hk'⟩))
  ·exact h2 k h hk'
 have upH:∀{x l},g'.H x=some l→(g.uncut g' n).H x=some l:=by
  intro x l hx
  simp only[G.uncut]
  split
  ·rename_i i hi
   have:=(gone hi (by rintro _ _ ⟨⟩)).2.1
   rw[hx]at this;cases this
  ·rename_i bb j hi
   split
   ·exact hx
   ·rename_i hbb
    have:=(gone hi (by rintro _ _ ⟨⟩;exact hbb)).2.1
    rw[hx]at this;cases this
  ·exact hx
 have own:∀{e:TypeId} {n':Nat} {c:Value} {l:Nat⊕(Nat×Nat)},Own P g' w' e n' c l→Own P (g.uncut g' n) w' e n' c l:=by
  intro e n' c l h
  rcases h with h|⟨x,off,len,cap,cs,e',fz,h1,h2,h3,h4,h5,h6,h7,h8⟩
  ·exact .inl h
  ·exact .inr ⟨x,off,len,cap,cs,e',fz,h1,upH h2,notb h3 (fun i hi hh=>by rw[(far hi hh).2.1]at h2;cases h2),h4,h5,h6,h7,h8⟩
 have oldOwn:∀{e:TypeId} {n':Nat} {c:Value} {l:Nat⊕(Nat×Nat)},(∀bb j,l= .inr (bb,j)→some bb∉g.β.take n)→Own P g w e n' c l→Own P (g.uncut g' n) w' e n' c l:=by
  intro e n' c l hl h
  rcases h with h|⟨x,off,len,cap,cs,e',fz,h1,h2,h3,h4,h5,h6,h7,h8⟩
  ·exact .inl h
  ·obtain⟨a1,a2,a3,a4,a5⟩:=gone h2 hl
   refine .inr ⟨x,off,len,cap,cs,e',fz,h1,?_,h3,by rw[a1];exact h4,h5,fun j hj=>by rw[A7 a1];exact h6 j hj,
    by show g'.ro x=_;rw[a4];exact h7,by show g'.lro x=g'.ro x;rw[a4,a5];exact h8⟩
   cases l with
   |inl i=>simp only[G.uncut,h2]
   |inr p=>obtain⟨bb,j⟩:=p;simp only[G.uncut,h2,if_neg (hl bb j rfl)]
 have E':Ext g w (g.uncut g' n) w':=by
  refine⟨E.os,E.tape,E.out,E.size,fun x hx h1 h2=> ?_,fun x hx=> ?_,⟨[],by simp[G.uncut]⟩,⟨[],by simp[G.uncut]⟩,E.bsz⟩
  ·obtain⟨a1,a2,a3,a4,a5⟩:=E.same x hx (by simp only[G.cut,h1]) (fun hm=>h2 (List.mem_of_mem_take hm))
   exact⟨a1,by simp only[G.uncut,h1,a2],h2,a4,a5⟩
  ·obtain⟨a1,a2,a3,a4⟩:=E.keep x hx
   exact⟨a1,a2,a3,id⟩
 have low:∀{x:V} {c:Value},LR P g' w' x c→LR P (g.uncut g' n) w' x c:=fun h=>h.cutTo hb ht rfl rfl (by have:=h.low glt;rwa [glen]at this)
 refine⟨E',⟨fun i=>(S.slot i).ext E' S.wg,fun i e xs hi=>oldOwn (by simp) (S.own i e xs hi),S.nown,?_,?_,S.glob.ext E' S.wg⟩,fun h=>h.cutTo hb ht rfl rfl (by have:=h.low glt;rwa [glen]at this),own⟩
 ·have get:∀{i:Nat} {v:V},(h'++st.h.drop n)[i]?=some v→(i<n∧h'[i]?=some v)∨(n≤i∧st.h[i]?=some v):=by
   intro i v h
   rcases Nat.lt_or_ge i n with hi|hi
   ·rw[List.getElem?_append_left (by omega)]at h;exact .inl ⟨hi,h⟩
   ·rw[List.getElem?_append_right (by omega),List.getElem?_drop]at h
    exact .inr ⟨hi,by rwa [hlen,show n+(i-n)=i by omega]at h⟩
  have gb:∀{i b},i<n→g.β[i]?=some b→g'.β[i]?=some b:=fun h1 h2=>by rw[b'];exact Ai.2 ⟨h1,h2⟩
  have gty:∀{i b},i<n→g.ty[i]?=some b→g'.ty[i]?=some b:=fun h1 h2=>by rw[t'];exact Ai.2 ⟨h1,h2⟩
  refine⟨by simp[G.uncut];omega,by simp[G.uncut];omega,S.box.inj,fun i v bt h1 h2=> ?_,fun i v h1 h2=> ?_,fun i v h1=> ?_,fun i v b h1 h2=> ?_⟩
  ·rcases get h1 with⟨hi,h1⟩|⟨hi,h1⟩
   ·exact B.has i v bt h1 (gty hi h2)
   ·exact S.box.has i v bt h1 h2
  ·rcases get h1 with⟨hi,h1⟩|⟨hi,h1⟩
   ·exact B.void i v h1 (gb hi h2)
   ·exact S.box.void i v h1 h2
  ·rcases get h1 with⟨hi,h1⟩|⟨hi,h1⟩
   ·exact B.low i v h1
   ·exact S.box.low i v h1
  ·rcases get h1 with⟨hi,h1⟩|⟨hi,h1⟩
   ·obtain⟨cs,e,fz,c1,c2,c3,c4⟩:=B.cells i v b h1 (gb hi h2)
    refine⟨cs,e,fz,c1,c2,c3,fun j x hx=> ?_⟩
    obtain⟨c,d1,d2,d3⟩:=c4 j x hx
    exact⟨c,d1,low d2,fun e xs hh=>own (d3 e xs hh)⟩
   ·obtain⟨cs,e,fz,c1,c2,c3,c4⟩:=S.box.cells i v b h1 h2
    have hf:=(far hi h2).1
    refine⟨cs,e,fz,by rw[hf];exact c1,c2,fun j hj=>by rw[A7 hf];exact c3 j hj,fun j x hx=> ?_⟩
    obtain⟨c,d1,d2,d3⟩:=c4 j x hx
    refine⟨c,d1,d2.ext E' S.wg,fun e xs hh=>oldOwn (fun bb j' e1 hm=> ?_) (d3 e xs hh)⟩
    cases e1
    obtain⟨k,hk,hkk⟩:=List.mem_iff_getElem.1 hm
    have hk':(g.β.take n)[k]?=some (some b):=by rw[List.getElem?_eq_getElem hk,hkk]
    obtain⟨k1,k2⟩:=Ai.1 hk'
    have:=S.box.inj k i b k2 h2
    omega
 ·refine⟨fun x hx=> ?_,fun i x hx=> ?_,W.le⟩
  ·obtain⟨h1,h2,h3⟩:=W.fresh x hx
   refine⟨?_,h2,h3⟩
   have hsz:=E.size
   simp only[G.uncut]
   split
   ·rename_i i hi;have:=lts hi;omega
   ·rename_i bb j hi;have:=lts hi;omega
   ·exact h1
  ·obtain⟨w1,w2,w3,w4⟩:=S.wg.box i x hx
   rcases Nat.lt_or_ge i n with hi|hi
   ·obtain⟨h1,h2,h3,h4⟩:=W.box i x (by rw[b'];exact Ai.2 ⟨hi,hx⟩)
    exact⟨h1,h2,h3,by simp only[G.uncut,w4,h4]⟩
   ·obtain⟨f1,f2,f3,f4,f5⟩:=far hi hx
    exact⟨Nat.lt_of_lt_of_le w1 E.size,by show g'.ro x=0;rw[f4];exact w2,by show g'.lro x=0;rw[f5];exact w3,by simp only[G.uncut,w4,f2]⟩
theorem MR {h vs:List V} {m:Nat} (hm:U5 h vs=some m):m≤h.length∧AU m vs=true:=by
 unfold U5 at hm
 have h1:=List.find?_some hm
 have h2:=List.mem_of_find?_eq_some hm
 rw[List.mem_range]at h2
 exact⟨by omega,h1⟩
theorem UX (L:Lay P) (FO:FnOk P A) (HO:Bl P A O) {R:Type} {st:St} {tm:Array Value} {kp:Bool} {hd:Option V} {kl:List V} {xv:V} {vs:List V} {cx:Value} {ar:Array Value} {k:V→List V→Option R} {r:R} (l:Nat⊕(Nat×Nat))
 (S:SR P A g w st tm) (hhd:∀x,hd=some x→∃c,VR P g w x c) (hx:VR P g w xv cx) (hn:vs.length=ar.size) (hv:∀(i:Nat) (v:V) (c:Value),vs[i]?=some v→ar[i]?=some c→VR P g w v c)
 (h:DX P A O kp hd kl xv vs st.h k=some r):
 Inv P cx ar w fun c w'=>∃v h' g',k v h'=some r∧Ext g w g' w'∧SR P A g' w' {st with h:=h'} tm∧VR P g' w' v c∧(∀e xs,v= .lst e .own xs→Own P g' w' e xs.length c l)∧((∃e xs,v= .lst e .own xs)∨v.noOwn=true)∧(∀f cs,xv= .clo f cs→A.ret f≠ .own→v.noOwn=true):=by
 unfold DX at h
 split at h
 ·exact UW L FO HO l S hhd hx hn hv h
 ·obtain⟨m,hm,h⟩:=Option.bind_eq_some_iff.1 h
  obtain⟨hml,hmu⟩:=MR hm
  simp only[AU,Bool.and_eq_true]at hmu
  obtain⟨B0,W0,G0⟩:=AAV FO S m
  have hb:∀i b,i<m→g.β[i]?=some b→(g.cut m).β[i]?=some b:=fun i b h1 h2=>Ai.2 ⟨h1,h2⟩
  have ht:∀i b,i<m→g.ty[i]?=some b→(g.cut m).ty[i]?=some b:=fun i b h1 h2=>Ai.2 ⟨h1,h2⟩
  have S0:SR P A (g.cut m) w ⟨[],st.h.take m⟩ tm:=
   ⟨fun i=> .dead _,fun i e xs hi=>by simp[St.get,look]at hi,fun i=> .inr rfl,B0,W0,G0⟩
  have:=IY L FO HO l S0 (hx.cutTo hb ht rfl rfl hmu.1) hn (fun i v c h1 h2=>(hv i v c h1 h2).cutTo hb ht rfl rfl (FU hmu.2 h1)) h
  refine this.mono fun c w' hh=> ?_
  obtain⟨v,h',g',hk,E,S',q1,q2,q3,q4⟩:=hh
  split at hk
  ·rename_i hok
   simp only[Bool.and_eq_true]at hok
   obtain⟨E',S'',hV,hO⟩:=XC S hml E S'.box S'.wg (Nat.eq_of_beq_eq_true hok.1)
   exact⟨v,_,_,hk,E',S'',hV q1,fun e xs hh=>hO (q2 e xs hh),q3,q4⟩
  ·cases hk
end
end AM
end
section
namespace AM
open Go
section
variable {P:Program} {A:Ann} {O:Orc} {g g':G} {w w':World}
theorem XD (L:Lay P) (FO:FnOk P A) (HO:Bl P A O) {R:Type} {Sl:List Nat} {st:St} {a:Act} {o:Oper} {fn:FuncId} {rid i:Nat} {k:St→Option R} {r:R}
 (hc:Dy P A Sl a.tmps.size fn rid i o=true) (S:SR P A g w st a.tmps) (N:NO Sl st) (h:op P A O fn rid i o st k=some r):FK P A Sl R g w a o k r:=by
 by_cases hnc:KQ o=true
 ·exact AAT L hc hnc S N h
 ·have hd:=Qq hc
  obtain⟨dst,op,type,pos,after,guard⟩:=o
  replace h:op0 P A O fn rid i ⟨dst,op,type,pos,after,guard⟩ st k=some r:=by
   unfold AM.op at h
   split at h
   ·exact h
   ·cases h
  unfold KQ at hnc
  simp only at hnc
  split at hnc
  ·rename_i x ar ts
   simp only[Dy,Bool.and_eq_true]at hc
   obtain⟨_,q1,q2⟩:=hc
   have hsz:ar.size=ts.size:=Nat.eq_of_beq_eq_true q1
   have h':DX P A O (A.fld fn rid i).isSome ((A.home fn rid i).map st.get) ((A.av fn rid i).map st.get) (st.ev P A 0 x) (args P A st {callee:= .value x,args:=ar,argTypes:=ts}) st.h (fun v h=>if(isFn x||v.noOwn)=true then k ({st with h:=h}.put dst v)else none)=some r:=h
   obtain⟨l,hl⟩:∃l:Nat⊕(Nat×Nat),∀d,dst=some d→l= .inl d:=by
    cases dst with
    |none=>exact⟨.inl 0,by simp⟩
    |some d=>exact⟨.inl d,by simp⟩
   have hinv:=UX (ar:=ar.map a.eval) L FO HO l S (fun y hy=>by
    obtain⟨s,_,rfl⟩:=Option.map_eq_some_iff.1 hy
    exact⟨_,S.slot s⟩) (S.ev 0 x) (by rw[P5 (P:=P) (A:=A) st x ar ts hsz];simp) (fun i v c h1 h2=>XB S x ar ts i v c h1 h2) h'
   intro K Q hK
   refine hinv.goal fun c w' hh=> ?_
   obtain⟨v,h2,g',hk,E,S',p1,p2,p3,p4⟩:=hh
   split at hk
   rotate_left
   ·cases hk
   rename_i hnox
   refine hK _ _ _ hk ⟨⟨g',E,?_⟩,?_,(Bd a dst c).1,(Bd a dst c).2⟩
   ·exact S'.putO (fun d hd'=>hd d hd') p1 (fun d hd' e xs hh=>by rw[←hl d hd'];exact p2 e xs hh) p3
   ·cases dst with
    |none=>exact N.h h2
    |some d=>
     simp only[Bool.or_eq_true]at q2
     rcases q2 with(q2|q2)|q2
     ·exact NO.put (N.h h2) (.inr ⟨d,rfl,q2⟩)
     ·cases x with
      |func f=>
       refine NO.put (N.h h2) (.inl (p4 f [] rfl ?_))
       intro hr
       simp[Hz,hr]at q2
      |_=>simp[Hz]at q2
     ·simp only[Bool.not_eq_true']at q2
      rw[q2,Bool.false_or]at hnox
      exact NO.put (N.h h2) (.inl hnox)
  ·exact(hnc rfl).elim
theorem Aft.trans {Sl:List Nat} {a a1 a2:Act} {st2:St} {w1 w2:World} (h:∃g',Ext g w g' w1∧Aft P A Sl g' w1 a1 st2 a2 w2) (h1:a1.tmps.size=a.tmps.size) (h2:a1.defers=a.defers):Aft P A Sl g w a st2 a2 w2:=by
 obtain⟨g',E,⟨g2,E2,S2⟩,n,s,d⟩:=h
 exact⟨⟨g2,E.trans E2,S2⟩,n,s.trans h1,d.trans h2⟩
theorem DU {S:List Nat} {n:Nat} {fn:FuncId} {rid i:Nat} {o:Oper} (h:Dy P A S n fn rid i o=true):∀d,o.dst=some d→d<n:=Qq h
theorem EH {st:St} {a:Act} (S:SR P A g w st a.tmps) {d:Nat} {b:Bool} (h:st.get d= .bool b):SR P A g w (st.put (some d) (.bool b)) a.tmps:=by
 have key:∀i,(st.put (some d) (.bool b)).get i=st.get i:=by
  intro i
  simp only[St.put,St.get]
  rw[Au]
  split
  ·rename_i hi;subst hi;exact h.symm
  ·rfl
 exact⟨fun i=>by rw[key];exact S.slot i,fun i e xs hi=>S.own i e xs (by rw[←key];exact hi),fun i=>by rw[key];exact S.nown i,S.box,S.wg,S.glob⟩
theorem NO.lit {Sl:List Nat} {st:St} (N:NO Sl st) (d:Nat) (b:Bool):NO Sl (st.put (some d) (.bool b)):=N.put (.inl rfl)
theorem EI {os:Array Oper} {o:Oper} {tm:Array Value} {j d:Nat} {want b:Bool} (hg:o.guard=some (j,want)) (hj:(os[j]?).bind (·.dst)=some d) (hd:tm.getD d undef= .bool b) (hlt:d<tm.size):
 Region.wanted o (yielded os tm)=decide (b=want):=by
 have hy:yielded os tm j=some b:=by
  unfold yielded
  rw[hj]
  have:tm[d]?=some (.bool b):=by
   rw[Array.getD_eq_getD_getElem?]at hd
   rw[Array.getElem?_eq_getElem hlt]at hd⊢
   simpa using hd
  simp[this]
 unfold Region.wanted
 rw[hg]
 simp only[hy]
 cases b<;>cases want<;>rfl
theorem I8 {os:Array Oper} {o:Oper} {tm:Array Value} {j d:Nat} {want:Bool} (hg:o.guard=some (j,want)) (hj:(os[j]?).bind (·.dst)=some d) (hd:∀b,tm.getD d undef≠ .bool b):
 Region.wanted o (yielded os tm)=false:=by
 have hy:yielded os tm j=none:=by
  unfold yielded
  rw[hj]
  simp only[Option.bind_some]
  split
  ·rename_i b hb
   refine(hd b ?_).elim
   rw[Array.getD_eq_getD_getElem?,hb];rfl
  ·rfl
 unfold Region.wanted
 rw[hg]
 simp only[hy]
 rfl
theorem TF (L:Lay P) (FO:FnOk P A) (HO:Bl P A O) {R:Type} {Sl:List Nat} {fn:FuncId} {rid n:Nat} {os:Array Oper} {k:St→Option R} {r:R} {Q:Exit→Act→World→Prop}
 (hc:∀i o,os[i]?=some o→Dy P A Sl n fn rid i o=true):∀(is sk:List Nat) (st:St) (a:Act) (g:G) (w:World),a.tmps.size=n→SR P A g w st a.tmps→NO Sl st→
 DC P A O fn rid os sk is st k=some r→(∀st' a' w',k st'=some r→Aft P A Sl g w a st' a' w'→Q .normal a' w')→wpOps P os Q is a w:=by
 intro is
 induction is with
 |nil=>intro sk st a g w hn S N h hQ;exact hQ st a w h ⟨⟨g,Ext.refl g w,S⟩,N,rfl,rfl⟩
 |cons i is ih=>
  intro sk st a g w hn S N h hQ
  simp only[DC]at h
  simp only[wpOps]
  split at h
  ·cases h
  ·rename_i o ho
   simp only[ho]
   have hco:=hc i o ho
   have run:∀{sk':List Nat} {st1:St},SR P A g w st1 a.tmps→NO Sl st1→Region.wanted o (yielded os a.tmps)=true→(op P A O fn rid i o st1 fun st=>DC P A O fn rid os sk' is st k)=some r→
    (if Region.wanted o (yielded os a.tmps)=true then o.wp P a w (wpOps P os Q is) Q∨(o.asks P a w∧LetsOut Q)else wpOps P os Q is (a.put o.dst undef) w):=by
    intro sk' st1 S1 N1 hw h1
    rw[if_pos hw]
    refine .inl (XD L FO HO (by rw[hn];exact hco) S1 N1 h1 _ Q fun st' a' w' hk A1=> ?_)
    obtain⟨⟨g',E,S'⟩,N',hs,hdf⟩:=A1
    exact ih sk' st' a' g' w' (hs.trans hn) S' N' hk fun st2 a2 w2 h2 A2=>hQ st2 a2 w2 h2 (Aft.trans ⟨g',E,A2⟩ hs hdf)
   have pass:∀{sk':List Nat} {st1:St},SR P A g w st1 a.tmps→NO Sl st1→Region.wanted o (yielded os a.tmps)=false→DC P A O fn rid os sk' is (st1.put o.dst (.tup [])) k=some r→
    (if Region.wanted o (yielded os a.tmps)=true then o.wp P a w (wpOps P os Q is) Q∨(o.asks P a w∧LetsOut Q)else wpOps P os Q is (a.put o.dst undef) w):=by
    intro sk' st1 S1 N1 hw h1
    rw[hw]
    simp only[Bool.false_eq_true,if_false]
    have S2:SR P A g w (st1.put o.dst (.tup [])) (a.put o.dst undef).tmps:=
     S1.putO (fun d hd=>by rw[hn];exact DU hco d hd) (v:= .tup []) (c:=undef) (.tup (vs:=[]) (cs:=[]) rfl rfl (by simp)) (fun _ _ _ _ hh=>by cases hh) (.inr rfl)
    exact ih sk' _ (a.put o.dst undef) g w ((Bd a o.dst undef).1.trans hn) S2 (N1.put (.inl rfl)) h1 fun st2 a2 w2 h2 A2=>
     hQ st2 a2 w2 h2 (Aft.trans ⟨g,Ext.refl g w,A2⟩ (Bd a o.dst undef).1 (Bd a o.dst undef).2)
   split at h
   ·rename_i hg
    exact run S N (by simp[Region.wanted,hg]) h
   ·rename_i j want hg
    split at h
    ·cases h
    ·rename_i d hd
     have hdn:d<a.tmps.size:=by
      rw[hn]
      obtain⟨oj,hoj,hdj⟩:=Option.bind_eq_some_iff.1 hd
      exact DU (hc j oj hoj) d hdj
     split at h
     ·split at h
      ·rename_i hst
       have hV:=S.slot d
       rw[hst]at hV
       obtain⟨cs,hcs,_⟩:=hV.tup'
       exact pass S N (I8 hg hd (fun b hb=>by rw[hcs]at hb;cases hb)) h
      ·cases h
     ·rcases EY h with⟨hb,h⟩|⟨hb,h⟩
      ·have hcv:a.tmps.getD d undef= .bool true:=by have:=S.slot d;rw[hb]at this;exact this.bool'
       have hw:=EI hg hd hcv hdn
       split at h
       ·rename_i hwant
        exact run (EH S hb) (N.lit d true) (by rw[hw,hwant];rfl) h
       ·rename_i hwant
        exact pass (EH S hb) (N.lit d true) (by rw[hw];simp at hwant;rw[hwant];rfl) h
      ·have hcv:a.tmps.getD d undef= .bool false:=by have:=S.slot d;rw[hb]at this;exact this.bool'
       have hw:=EI hg hd hcv hdn
       split at h
       ·rename_i hwant
        exact pass (EH S hb) (N.lit d false) (by rw[hw,hwant];rfl) h
       ·rename_i hwant
        exact run (EH S hb) (N.lit d false) (by rw[hw];simp at hwant;rw[hwant];rfl) h
end
end AM
end
section
namespace AM
open Go
section
variable {P:Program} {A:Ann} {O:Orc}
def ins (ws:List (Nat×V)) (s:List (Nat×V)):List (Nat×V):=ws.foldl (fun s p=>insert p.1 p.2 s) s
def Gu (d:Option Tmp) (v:V):List (Nat×V):=match d with
 |some d=>[(d,v)]
 |none=>[]
def FV (s:List (Nat×V)) (x:Operand):List (Nat×V):=match x with
 | .tmp i=>[(i,(look i s).weak)]
 |_=>[]
def KW:Operand→List Nat
 | .tmp i=>[i]
 |_=>[]
theorem BZ (a b s:List (Nat×V)):ins (a++b) s=ins b (ins a s):=by simp[ins]
theorem Ac (s:List (Nat×V)) (h:List V) (d:Option Tmp) (v:V):St.put ⟨s,h⟩ d v=⟨ins (Gu d v) s,h⟩:=by cases d<;>rfl
theorem FW (s:List (Nat×V)) (h:List V) (x:Operand):St.give ⟨s,h⟩ x=⟨ins (FV s x) s,h⟩:=by cases x<;>rfl
def XE (P:Program) (A:Ann) (fn:FuncId) (rid i:Nat) (o:Oper):Bool:=
 match o.op with
 | .move _=> !AQ i (A.take fn rid)&&BF P depth o.type
 | .assign _=> !AQ i (A.take fn rid)&&BF P depth o.type
 |_=>false
def AGs (P:Program) (A:Ann) (o:Oper) (s s2:List (Nat×V)):Prop:=∀x∈o.op.operands,∀t h h2,(⟨s,h⟩:St).ev P A t x=(⟨s2,h2⟩:St).ev P A t x
def AGw (P:Program) (A:Ann) (o:Oper) (s s2:List (Nat×V)):Prop:=∀x∈o.op.operands,∀t h h2,((⟨s,h⟩:St).ev P A t x).weak=((⟨s2,h2⟩:St).ev P A t x).weak
def AG (P:Program) (A:Ann) (fn:FuncId) (rid i:Nat) (o:Oper) (s s2:List (Nat×V)):Prop:=
 (XE P A fn rid i o=false→AGs P A o s s2)∧(XE P A fn rid i o=true→AGw P A o s s2)
def HG (A:Ann) (fn:FuncId) (rid i:Nat) (s s2:List (Nat×V)):Prop:=(∀d,A.home fn rid i=some d→look d s=look d s2)∧∀d∈A.av fn rid i,look d s=look d s2
theorem FX {s s2:List (Nat×V)} {x:Operand} (h:∀t h h2,(⟨s,h⟩:St).ev P A t x=(⟨s2,h2⟩:St).ev P A t x):FV s x=FV s2 x:=by
 cases x with
 |tmp i=>
  have:=h 0 [] []
  simp only[St.ev,St.get]at this
  simp only[FV,this]
 |_=>rfl
def TG (P:Program) (A:Ann) (O:Orc) (fn:FuncId) (rid i:Nat) (o:Oper) (s:List (Nat×V)) (h:List V) (ws:List (Nat×V)) (h':List V):Prop:=
 ∀(R:Type) (k:St→Option R) (s2:List (Nat×V)),AG P A fn rid i o s s2→HG A fn rid i s s2→op P A O fn rid i o ⟨s2,h⟩ k=k ⟨ins ws s2,h'⟩
inductive Cls where
 |n
 |ro
 |ld (s:Option Nat)
 |tk (s:Nat)
 |tf (s k:Nat)
 |hid (s:Nat)
 |kp (l:List Nat) (c:Bool)
 |al
 |wr
def AAW (P:Program) (t:TypeId):Bool:=match P.underlying t with
 |some (.slice _)=>false
 |_=>true
def cls0 (P:Program) (A:Ann) (fn:FuncId) (rid i:Nat) (o:Oper):Cls:=
 match o.op with
 | .move _=> .n
 | .assign _=> .n
 | .pick _ _ _=> .n
 | .alloc _=> .al
 | .load _ _=>if AQ i (A.take fn rid)then(match A.home fn rid i with
   |some s=>match A.fld fn rid i with
    |some k=> .tf s k
    |none=> .tk s
   |none=> .wr)else .ld (A.home fn rid i)
 | .store _ _ _=>match A.home fn rid i with
   |some s=> .tk s
   |none=> .kp (A.av fn rid i) false
 | .call {callee:= .builtin .append,..}=>if AQ i (A.muts fn rid)then .wr else .ro
 | .call {callee:= .builtin .len,..}=>if AQ i (A.muts fn rid)then .wr else .n
 | .call {callee:= .builtin .min,..}=>if AQ i (A.muts fn rid)then .wr else .n
 | .call {callee:= .builtin .max,..}=>if AQ i (A.muts fn rid)then .wr else .n
 | .call {callee:= .value x,..}=>if(A.fld fn rid i).isSome=true then .kp (A.av fn rid i) true else match A.home fn rid i with
   |some s=> .hid s
   |none=>match x with
    | .func f=>if A.pure f&& !A.ext f&&Nat.beq (A.seq f).1 0 then .ro else .wr
    |_=> .wr
 | .convert s _ _=>if AQ i (A.muts fn rid)then .wr else if AAW P s then .n else .ro
 | .nilCheck _=>if AQ i (A.muts fn rid)then .wr else .n
 | .binOp _ _ _ _ _=>if AQ i (A.muts fn rid)then .wr else .n
 | .unOp _ _ _=>if AQ i (A.muts fn rid)then .wr else .n
 | .makeFunc _ _ _=>if AQ i (A.muts fn rid)then .wr else .n
 | .makeSlice _ _ _=>if AQ i (A.muts fn rid)then .wr else .n
 | .slice _ _ _ _ _=>if AQ i (A.muts fn rid)then .wr else .n
 | .fieldAddr _ _ _=>if AQ i (A.muts fn rid)then .wr else .n
 | .field _ _ _=>if AQ i (A.muts fn rid)then .wr else .n
 | .indexAddr _ _ _=>if AQ i (A.muts fn rid)then .wr else .n
 | .index _ _ _=>if AQ i (A.muts fn rid)then .wr else .n
 | .extract _ _=>if AQ i (A.muts fn rid)then .wr else .n
 | .build _ _=>if AQ i (A.muts fn rid)then .wr else .n
 | .buildSlice _ _ _=>if AQ i (A.muts fn rid)then .wr else .n
 |_=> .wr
def MS (P:Program) (A:Ann) (fn:FuncId) (rid i:Nat) (o:Oper):Cls:=
 bif AQ i (A.low fn rid)then(match cls0 P A fn rid i o with
  | .ro=> .n
  | .ld none=> .n
  |c=>c)else cls0 P A fn rid i o
def lo (A:Ann):Ann:={A with low:=fun _ _=>[]}
def Qu (A:Ann) (fn:FuncId) (rid i:Nat) (o:Oper):List Nat:=
 match o.op with
 | .move x=>if AQ i (A.take fn rid)then KW x else[]
 | .assign x=>if AQ i (A.take fn rid)then KW x else[]
 | .store _ _ x=>KW x
 | .call {callee:= .builtin .append,args,..}=>match args.toList with
   |x::_=>KW x
   |[]=>[]
 |_=>[]
def U0 (A:Ann) (fn:FuncId) (rid i:Nat) (o:Oper):List Nat:=o.dst.toList++Qu A fn rid i o
def Loc (P:Program) (A:Ann) (O:Orc) (fn:FuncId) (rid i:Nat) (o:Oper) (sl:Nat) (s:List (Nat×V)) (h:List V) (ws:List (Nat×V)) (h':List V):Prop:=
 ∃id p t y y',look sl s= .ref id p t∧h[id]?=some y∧h'=h.set id y'∧∀h2:List V,h2[id]?=some y→TG P A O fn rid i o s h2 ws (h2.set id y')
def ACO (P:Program) (A:Ann) (O:Orc) (fn:FuncId) (rid i:Nat) (o:Oper) (sl:Nat) (s:List (Nat×V)) (h:List V) (ws:List (Nat×V)) (h':List V):Prop:=
 ∃id p t y,look sl s= .ref id p t∧h[id]?=some y∧h'[id]?=some y∧∀y2,TG P A O fn rid i o s (h.set id y2) ws (h'.set id y2)
def LocF (E:List V→List V→Prop) (s:List (Nat×V)) (sl k:Nat) (h h':List V):Prop:=
 ∃id p t x,look sl s= .ref id p t∧rd h id (p++[k])=some x∧wr h id (p++[k]) x.weak=some h'∧∀h2 h2',rd h2 id (p++[k])=some x→wr h2 id (p++[k]) x.weak=some h2'→E h2 h2'
theorem LocF.mono {E E':List V→List V→Prop} (he:∀a b,E a b→E' a b) {s:List (Nat×V)} {sl k:Nat} {h h':List V} (hl:LocF E s sl k h h'):LocF E' s sl k h h':=by
 obtain⟨id,p,t,x,a,b,c,d⟩:=hl
 exact⟨id,p,t,x,a,b,c,fun h2 h2' e f=>he _ _ (d h2 h2' e f)⟩
def Yr (s:List (Nat×V)) (sl:Nat) (h h':List V):Prop:=∃id p t y,look sl s= .ref id p t∧h[id]?=some y∧h'[id]?=some y
def CF (P:Program) (A:Ann) (O:Orc) (fn:FuncId) (rid i:Nat) (o:Oper) (c:Cls) (s:List (Nat×V)) (h:List V) (ws:List (Nat×V)) (h':List V):Prop:=
 match c with
 | .n=>h'=h∧∀h2,TG P A O fn rid i o s h2 ws h2
 | .ro=>h'=h
 | .ld home=>h'=h∧(∀z,TG P A O fn rid i o s (h++[z]) ws (h++[z]))∧∀sl,home=some sl→Loc P A O fn rid i o sl s h ws h'
 | .tk sl=>Loc P A O fn rid i o sl s h ws h'
 | .tf sl k=>Loc P A O fn rid i o sl s h ws h'∧LocF (fun a b=>TG P A O fn rid i o s a ws b) s sl k h h'
 | .hid sl=>ACO P A O fn rid i o sl s h ws h'
 | .kp l c=>(∀sl∈l,Yr s sl h h')∧(c=true→h'.length=h.length∧∀z,TG P A O fn rid i o s (h++[z]) ws (h'++[z]))
 | .al=>∃z,h'=h++[z]∧∀h2,h2.length=h.length→TG P A O fn rid i o s h2 ws (h2++[z])
 | .wr=>True
theorem C9 {o:Oper} {s s2:List (Nat×V)} {h:List V} (ag:AGs P A o s s2):pureOp P A ⟨s2,h⟩ o=pureOp P A ⟨s,h⟩ o:=by
 obtain⟨dst,op,type,pos,after,guard⟩:=o
 have ag':∀x∈op.operands,∀t,(⟨s2,h⟩:St).ev P A t x=(⟨s,h⟩:St).ev P A t x:=fun x hx t=>(ag x hx t h h).symm
 clear ag
 have opt:∀(x:Option Operand) (t:TypeId),(∀y,x=some y→∀t,(⟨s2,h⟩:St).ev P A t y=(⟨s,h⟩:St).ev P A t y)→x.map ((⟨s2,h⟩:St).ev P A t)=x.map ((⟨s,h⟩:St).ev P A t):=by
  intro x t hx
  cases x with
  |none=>rfl
  |some y=>simp only[Option.map_some];rw[hx y rfl]
 cases op<;>simp only[Op.operands]at ag'<;>simp only[pureOp]
 case build t ps=>
  congr 1
  refine List.map_congr_left fun p hp=> ?_
  obtain⟨i,x⟩:=p
  simp only[]
  rw[ag' x (by simp;exact⟨i,by simpa using hp⟩)]
 case buildSlice t n ps=>
  congr 1
  refine List.map_congr_left fun p hp=> ?_
  obtain⟨i,x⟩:=p
  simp only[]
  rw[ag' x (by simp;exact⟨i,by simpa using hp⟩)]
 case makeFunc f first caps=>
  cases f<;>simp only[pureOp]
  rw[List.map_congr_left (l:=caps.toList) fun x hx=>ag' x (by simp at hx⊢;exact .inr hx) 0]
 case slice t x lo hi mx=>
  rw[ag' x (by simp),opt lo 0 fun y hy=>ag' y (by simp[hy]),opt hi 0 fun y hy=>ag' y (by simp[hy]),opt mx 0 fun y hy=>ag' y (by simp[hy])]
 case call c=>
  obtain⟨callee,ar,ts⟩:=c
  have ar':∀x∈ar,∀t,(⟨s2,h⟩:St).ev P A t x=(⟨s,h⟩:St).ev P A t x:=fun x hx t=>ag' x (by simp[Call.operands,hx]) t
  cases callee with
  |value x=>rfl
  |invoke x n=>rfl
  |builtin b=>
   have l2:∀{x y},ar.toList=[x,y]→(∀t,(⟨s2,h⟩:St).ev P A t x=(⟨s,h⟩:St).ev P A t x)∧(∀t,(⟨s2,h⟩:St).ev P A t y=(⟨s,h⟩:St).ev P A t y):=by
    intro x y hxy
    exact⟨ar' x (by rw[←Array.mem_toList_iff,hxy];simp),ar' y (by rw[←Array.mem_toList_iff,hxy];simp)⟩
   cases b<;>simp only[pureOp]
   case len=>
    split
    ·rename_i x t hx ht
     rw[ar' x (Array.mem_of_getElem? hx)]
    ·rfl
   case min=>
    split
    ·rename_i x y hxy
     rw[(l2 hxy).1,(l2 hxy).2]
    ·rfl
   case max=>
    split
    ·rename_i x y hxy
     rw[(l2 hxy).1,(l2 hxy).2]
    ·rfl
   case append=>
    split
    ·rename_i x y hxy
     rw[(l2 hxy).1,(l2 hxy).2]
    ·rfl
 all_goals first
  |rfl
  |(simp_all;done)
end
end AM
end
section
namespace AM
open Go
section
variable {P:Program} {A:Ann} {O:Orc}
theorem D6 {d:Option Tmp} {v:V} {p:Nat×V} (h:p∈Gu d v):p.1∈d.toList:=by
 cases d with
 |none=>simp[Gu]at h
 |some d=>simp[Gu]at h;subst h;simp
theorem IZ {s:List (Nat×V)} {x:Operand} {p:Nat×V} (h:p∈FV s x):p.1∈KW x∧p.2=(look p.1 s).weak:=by
 cases x with
 |tmp i=>simp[FV]at h;subst h;simp[KW]
 |_=>simp[FV]at h
def Form (P:Program) (A:Ann) (O:Orc) (fn:FuncId) (rid i:Nat) (o:Oper) (R:Type) (s:List (Nat×V)) (h:List V) (k:St→Option R) (r:R):Prop:=
 ∃ws h',k ⟨ins ws s,h'⟩=some r∧(∀p∈ws,p.1∈o.dst.toList∨(p.1∈Qu A fn rid i o∧p.2=(look p.1 s).weak))∧TG P A O fn rid i o s h ws h'∧CF P A O fn rid i o (MS P A fn rid i o) s h ws h'
theorem BB {α:Type} {l:List α} {i:Nat} {a:α} (h:l[i]?=some a):l.set i a=l:=by
 apply List.ext_getElem?
 intro j
 by_cases hj:j=i
 ·subst hj;rw[set_self (Af h),h]
 ·rw[BO hj]
theorem UY {h:List V} {id:Nat} {p:List Nat} {v:V} (hr:rd h id p=some v) (z:V):rd (h++[z]) id p=some v:=by
 unfold rd at*
 obtain⟨y,hy,h2⟩:=Option.bind_eq_some_iff.1 hr
 rw[List.getElem?_append_left (Af hy),hy];exact h2
theorem KX {h:List V} {t:TypeId} {a v:V} (hl:BI h t a=some v) (z:V):BI (h++[z]) t a=some v:=by
 unfold BI at*
 split at hl
 ·split at hl
  ·rename_i hh;rw[if_pos hh];exact UY hl z
  ·cases hl
 ·exact hl
 ·cases hl
theorem MV {h h2:List V} {t:TypeId} {id:Nat} {p:List Nat} {t':TypeId} {v y:V} (hl:BI h t (.ref id p t')=some v) (h1:h[id]?=some y) (h3:h2[id]?=some y):BI h2 t (.ref id p t')=some v:=by
 simp only[BI]at*
 split at hl
 ·rename_i hh;rw[if_pos hh]
  simp only[rd,h1,h3]at*;exact hl
 ·cases hl
theorem cls_lo {fn:FuncId} {rid i:Nat} {o:Oper}:MS P (lo A) fn rid i o=cls0 P (lo A) fn rid i o:=rfl
theorem UZ {R:Type} {fn:FuncId} {rid i:Nat} {dst:Option Tmp} {t:TypeId} {ao:Operand} {type:TypeId} {pos:String} {after:Array Edge} {guard:Option (Nat×Bool)} {s:List (Nat×V)} {h:List V} {k:St→Option R} {r:R}
 (hop:op P (lo A) O fn rid i ⟨dst,.load t ao,type,pos,after,guard⟩ ⟨s,h⟩ k=some r):Form P (lo A) O fn rid i ⟨dst,.load t ao,type,pos,after,guard⟩ R s h k r:=by
 have hop':(if(LJ ((lo A).home fn rid i) ((lo A).fld fn rid i) ⟨s,h⟩ ((⟨s,h⟩:St).ev P (lo A) 0 ao)&&Ep ((lo A).home fn rid i) ⟨s,h⟩ ((⟨s,h⟩:St).ev P (lo A) 0 ao))=true then if AQ i ((lo A).take fn rid)then(Df h t ((⟨s,h⟩:St).ev P (lo A) 0 ao)).bind fun r=>k ({(⟨s,h⟩:St)with h:=r.2}.put dst r.1)
  else(if BF P depth t then GH h t ((⟨s,h⟩:St).ev P (lo A) 0 ao)else BI h t ((⟨s,h⟩:St).ev P (lo A) 0 ao)).bind fun v=>k ((⟨s,h⟩:St).put dst v)else none)=some r:=hop
 have eqs:∀{R:Type} {k:St→Option R} {s2:List (Nat×V)} {h2:List V},AG P (lo A) fn rid i ⟨dst,.load t ao,type,pos,after,guard⟩ s s2→HG (lo A) fn rid i s s2→
  op P (lo A) O fn rid i ⟨dst,.load t ao,type,pos,after,guard⟩ ⟨s2,h2⟩ k=(if(LJ ((lo A).home fn rid i) ((lo A).fld fn rid i) ⟨s,h⟩ ((⟨s,h⟩:St).ev P (lo A) 0 ao)&&Ep ((lo A).home fn rid i) ⟨s,h⟩ ((⟨s,h⟩:St).ev P (lo A) 0 ao))=true then if AQ i ((lo A).take fn rid)then(Df h2 t ((⟨s,h⟩:St).ev P (lo A) 0 ao)).bind fun r=>k ({(⟨s2,h2⟩:St)with h:=r.2}.put dst r.1)
  else(if BF P depth t then GH h2 t ((⟨s,h⟩:St).ev P (lo A) 0 ao)else BI h2 t ((⟨s,h⟩:St).ev P (lo A) 0 ao)).bind fun v=>k ((⟨s2,h2⟩:St).put dst v)else none):=by
  intro R k s2 h2 ag hg
  have e1:=ag.1 rfl ao (by simp[Op.operands]) 0 h h2
  have e2:Ep ((lo A).home fn rid i) ⟨s2,h2⟩ ((⟨s,h⟩:St).ev P (lo A) 0 ao)=Ep ((lo A).home fn rid i) ⟨s,h⟩ ((⟨s,h⟩:St).ev P (lo A) 0 ao):=by
   unfold Ep
   split
   ·rfl
   ·rename_i d hd
    simp only[St.get]
    rw[hg.1 d hd]
  have e3:op P (lo A) O fn rid i ⟨dst,.load t ao,type,pos,after,guard⟩ ⟨s2,h2⟩ k=(if(LJ ((lo A).home fn rid i) ((lo A).fld fn rid i) ⟨s2,h2⟩ ((⟨s2,h2⟩:St).ev P (lo A) 0 ao)&&Ep ((lo A).home fn rid i) ⟨s2,h2⟩ ((⟨s2,h2⟩:St).ev P (lo A) 0 ao))=true then if AQ i ((lo A).take fn rid)then(Df h2 t ((⟨s2,h2⟩:St).ev P (lo A) 0 ao)).bind fun r=>k ({(⟨s2,h2⟩:St)with h:=r.2}.put dst r.1)
  else(if BF P depth t then GH h2 t ((⟨s2,h2⟩:St).ev P (lo A) 0 ao)else BI h2 t ((⟨s2,h2⟩:St).ev P (lo A) 0 ao)).bind fun v=>k ((⟨s2,h2⟩:St).put dst v)else none):=rfl
  have e4:LJ ((lo A).home fn rid i) ((lo A).fld fn rid i) ⟨s2,h2⟩ ((⟨s,h⟩:St).ev P (lo A) 0 ao)=LJ ((lo A).home fn rid i) ((lo A).fld fn rid i) ⟨s,h⟩ ((⟨s,h⟩:St).ev P (lo A) 0 ao):=by
   unfold LJ
   split
   ·rfl
   ·split
    ·rfl
    ·rename_i d hd
     simp only[St.get]
     rw[hg.1 d hd]
  rw[e3,←e1,e2,e4]
 generalize hae:(⟨s,h⟩:St).ev P (lo A) 0 ao=a at hop' eqs
 have home:∀sl,(lo A).home fn rid i=some sl→Ep ((lo A).home fn rid i) ⟨s,h⟩ a=true→∃id p p' t t',look sl s= .ref id p t∧a= .ref id p' t':=by
  intro sl hsl hb
  rw[hsl]at hb
  simp only[Ep,RH,St.get]at hb
  split at hb
  ·rename_i id p t id' p' t' h1
   exact⟨id,p,p',t,t',h1,by rw[Nat.eq_of_beq_eq_true hb]⟩
  ·cases hb
 split at hop'
 ·rename_i hb
  simp only[hb,if_true]at eqs
  simp only[Bool.and_eq_true]at hb
  split at hop'
  ·rename_i ht
   simp only[ht,if_true]at eqs
   obtain⟨⟨v,h'⟩,hv,hk⟩:=Option.bind_eq_some_iff.1 hop'
   dsimp only at hk
   rw[Ac]at hk
   refine⟨Gu dst v,h',hk,fun p hp=> .inl (D6 hp),fun R k s2 ag hg=> ?_,?_⟩
   ·rw[eqs ag hg,hv];simp only[Option.bind_some];rw[Ac]
   ·simp only[cls_lo,cls0,ht,if_true]
    cases hhome:(lo A).home fn rid i with
    |none=>trivial
    |some sl=>
     obtain⟨id,p,p',t1,t1',hl,rfl⟩:=home sl hhome hb.2
     have hv':=hv
     simp only[Df]at hv'
     split at hv'
     ·rename_i htt
      obtain⟨x,hx,hv'⟩:=Option.bind_eq_some_iff.1 hv'
      obtain⟨h'',hw,he⟩:=Option.map_eq_some_iff.1 hv'
      cases he
      have loc:Loc P (lo A) O fn rid i ⟨dst,.load t ao,type,pos,after,guard⟩ sl s h (Gu dst v) h':=by
       have hw':=hw
       unfold wr at hw'
       obtain⟨y,hy,hw'⟩:=Option.bind_eq_some_iff.1 hw'
       obtain⟨y',hy',rfl⟩:=Option.map_eq_some_iff.1 hw'
       refine⟨id,p,t1,y,y',hl,hy,rfl,fun h2 hh2 R k s2 ag hg=> ?_⟩
       rw[eqs ag hg]
       have:Df h2 t (.ref id p' t1')=some (v,h2.set id y'):=by
        simp only[Df,htt,if_true,rd,hh2,Option.bind_some]
        simp only[rd,hy,Option.bind_some]at hx
        rw[hx]
        simp only[Option.bind_some,wr,hh2,hy',Option.map_some]
       rw[this]
       simp only[Option.bind_some]
       rw[Ac]
      cases hfld:(lo A).fld fn rid i with
      |none=>exact loc
      |some k0=>
       refine⟨loc,?_⟩
       have hf:=hb.1
       rw[hfld,hhome]at hf
       simp only[LJ,St.get,hl,Xi,decide_eq_true_eq]at hf
       subst hf
       refine⟨id,p,t1,v,hl,hx,hw,fun h2 h2' e1 e2 R k s2 ag hg=> ?_⟩
       rw[eqs ag hg]
       have:Df h2 t (.ref id (p++[k0]) t1')=some (v,h2'):=by
        simp only[Df,htt,if_true,e1,Option.bind_some,e2,Option.map_some]
       rw[this]
       simp only[Option.bind_some]
       rw[Ac]
     ·cases hv'
  ·rename_i ht
   simp only[ht,if_false,Bool.false_eq_true]at eqs
   obtain⟨v,hv,hk⟩:=Option.bind_eq_some_iff.1 hop'
   rw[Ac]at hk
   have go:∀{h2:List V},(if BF P depth t then GH h2 t a else BI h2 t a)=some v→TG P (lo A) O fn rid i ⟨dst,.load t ao,type,pos,after,guard⟩ s h2 (Gu dst v) h2:=by
    intro h2 hh R k s2 ag hg
    rw[eqs ag hg,hh];simp only[Option.bind_some];rw[Ac]
   refine⟨Gu dst v,h,hk,fun p hp=> .inl (D6 hp),go hv,?_⟩
   simp only[cls_lo,cls0,ht,if_false,Bool.false_eq_true]
   refine⟨rfl,fun z=>go ?_,fun sl hsl=> ?_⟩
   ·split at hv
    ·rename_i hs;rw[if_pos hs]
     unfold GH at*
     obtain⟨x,hx,rfl⟩:=Option.map_eq_some_iff.1 hv
     rw[KX hx z];rfl
    ·rename_i hs;rw[if_neg hs]
     exact KX hv z
   ·obtain⟨id,p,p',t1,t1',hl,rfl⟩:=home sl hsl hb.2
    obtain⟨y,hy⟩:∃y,h[id]?=some y:=by
     have:∃x,BI h t (.ref id p' t1')=some x:=by
      split at hv
      ·unfold GH at hv;obtain⟨x,hx,_⟩:=Option.map_eq_some_iff.1 hv;exact⟨x,hx⟩
      ·exact⟨v,hv⟩
     obtain⟨x,hx⟩:=this
     simp only[BI]at hx
     split at hx
     ·unfold rd at hx;obtain⟨y,hy,_⟩:=Option.bind_eq_some_iff.1 hx;exact⟨y,hy⟩
     ·cases hx
    refine⟨id,p,t1,y,y,hl,hy,(BB hy).symm,fun h2 hh2=> ?_⟩
    rw[BB hh2]
    refine go ?_
    split at hv
    ·rename_i hs;rw[if_pos hs]
     unfold GH at*
     obtain⟨x,hx,rfl⟩:=Option.map_eq_some_iff.1 hv
     rw[MV hx hy hh2];rfl
    ·rename_i hs;rw[if_neg hs]
     exact MV hv hy hh2
 ·cases hop'
theorem FY {R:Type} {xv:V} {vs h:List V} {k:V→List V→Option R} {r:R} (hc:CX P A O xv vs h k=some r):
 ∃v h',k v h'=some r∧∀(S:Type) (k':V→List V→Option S),CX P A O xv vs h k'=k' v h':=by
 unfold CX at*
 split at hc
 ·unfold GI at*
  split at hc
  ·rename_i he
   unfold Xc at*
   split at hc
   ·split at hc
    ·rename_i hh
     exact⟨_,_,hc,fun S k'=>by rw[if_pos he,if_pos hh]⟩
    ·cases hc
   ·dsimp only at hc
    split at hc
    ·rename_i n hh
     exact⟨_,_,hc,fun S k'=>by simp only[he,if_true,hh,and_self]⟩
    ·cases hc
   ·cases hc
  ·rename_i he
   split at hc
   ·rename_i hs
    obtain⟨q,hq,hk⟩:=Option.bind_eq_some_iff.1 hc
    exact⟨_,_,hk,fun S k'=>by rw[if_neg he,if_pos hs,hq];rfl⟩
   rename_i hs
   split at hc
   ·rename_i hp
    obtain⟨q,hq,hk⟩:=Option.bind_eq_some_iff.1 hc
    exact⟨_,_,hk,fun S k'=>by rw[if_neg he,if_neg hs,if_pos hp,hq];rfl⟩
   ·rename_i hp
    obtain⟨q,hq,hk⟩:=Option.bind_eq_some_iff.1 hc
    exact⟨_,_,hk,fun S k'=>by rw[if_neg he,if_neg hs,if_neg hp,hq];rfl⟩
 ·cases hc
theorem Bg {fn:FuncId} {rid i:Nat} {o:Oper} {s:List (Nat×V)} {v:V} {p:Nat×V} (hp:p∈Gu o.dst v):p.1∈o.dst.toList∨(p.1∈Qu A fn rid i o∧p.2=(look p.1 s).weak):= .inl (D6 hp)
theorem Ed {R:Type} {fn:FuncId} {rid i:Nat} {o:Oper} {s:List (Nat×V)} {h:List V} {k:St→Option R} {r:R} {v:V} (hk:k (St.put ⟨s,h⟩ o.dst v)=some r)
 (he:∀(R:Type) (k:St→Option R) (s2:List (Nat×V)),AG P A fn rid i o s s2→HG A fn rid i s s2→op P A O fn rid i o ⟨s2,h⟩ k=k (St.put ⟨s2,h⟩ o.dst v))
 (hc:CF P A O fn rid i o (MS P A fn rid i o) s h (Gu o.dst v) h):Form P A O fn rid i o R s h k r:=by
 rw[Ac]at hk
 exact⟨Gu o.dst v,h,hk,fun p hp=>Bg hp,fun R k s2 ag hg=>by rw[he R k s2 ag hg,Ac],hc⟩
theorem Ua (s:List (Nat×V)) (h h2:List V) (t:TypeId) (x:Operand):(⟨s,h⟩:St).ev P A t x=(⟨s,h2⟩:St).ev P A t x:=by cases x<;>rfl
def GX (P:Program) (o:Oper):Bool:=
 match o.op with
 | .nilCheck _=>true
 | .binOp _ _ _ _ _=>true
 | .unOp _ _ _=>true
 | .makeFunc _ _ _=>true
 | .makeSlice _ _ _=>true
 | .slice _ _ _ _ _=>true
 | .fieldAddr _ _ _=>true
 | .field _ _ _=>true
 | .indexAddr _ _ _=>true
 | .index _ _ _=>true
 | .extract _ _=>true
 | .build _ _=>true
 | .buildSlice _ _ _=>true
 | .convert s _ _=>AAW P s
 | .call {callee:= .builtin .len,..}=>true
 | .call {callee:= .builtin .min,..}=>true
 | .call {callee:= .builtin .max,..}=>true
 |_=>false
theorem Ns {o:Oper} (hn:GX P o=true) (s:List (Nat×V)) (h h2:List V):pureOp P A ⟨s,h⟩ o=pureOp P A ⟨s,h2⟩ o:=by
 obtain⟨dst,op,type,pos,after,guard⟩:=o
 cases op<;>first
  |rfl
  |(simp[GX]at hn;done)
  |skip
 case convert a b x=>
  simp only[GX,AAW]at hn
  show conv P h a b ((⟨s,h⟩:St).ev P A a x)=conv P h2 a b ((⟨s,h2⟩:St).ev P A a x)
  rw[Ua s h h2]
  generalize (⟨s,h2⟩:St).ev P A a x=v
  unfold conv
  split
  ·rfl
  ·rfl
  ·rfl
  ·split
   ·rename_i hs;rw[hs]at hn;simp at hn
   ·rfl
  ·rfl
 case makeFunc f first caps=>cases f<;>rfl
 case call c=>
  obtain⟨callee,ar,ts⟩:=c
  cases callee with
  |value x=>simp[GX]at hn
  |invoke x n=>simp[GX]at hn
  |builtin b=>cases b<;>first|rfl|(simp[GX]at hn;done)
theorem XF {R:Type} {fn:FuncId} {rid i:Nat} {o:Oper} {s:List (Nat×V)} {h:List V} {k:St→Option R} {r:R} (hop:op P (lo A) O fn rid i o ⟨s,h⟩ k=some r):Form P (lo A) O fn rid i o R s h k r:=by
 have rest:(∀{R:Type} (st:St) (k:St→Option R),op P (lo A) O fn rid i o st k=(pureOp P (lo A) st o).bind fun v=>if AQ i ((lo A).muts fn rid)then(Dq st.h v).bind fun r=>k ({st with h:=r.2}.put o.dst r.1)else k (st.put o.dst v))→
  (AQ i ((lo A).muts fn rid)=true→MS P (lo A) fn rid i o= .wr)→(AQ i ((lo A).muts fn rid)=false→MS P (lo A) fn rid i o= .wr∨MS P (lo A) fn rid i o= .ro∨(MS P (lo A) fn rid i o= .n∧GX P o=true))→XE P (lo A) fn rid i o=false→Form P (lo A) O fn rid i o R s h k r:=by
  intro hun hc1 hc2 hwk
  rw[hun]at hop
  obtain⟨v,hv,hop⟩:=Option.bind_eq_some_iff.1 hop
  by_cases hm:AQ i ((lo A).muts fn rid)=true
  ·rw[if_pos hm]at hop
   obtain⟨q,hq,hk⟩:=Option.bind_eq_some_iff.1 hop
   dsimp only at hk
   rw[Ac]at hk
   refine⟨Gu o.dst q.1,q.2,hk,fun p hp=>Bg hp,fun R k s2 ag hg=> ?_,by rw[hc1 hm];trivial⟩
   rw[hun,C9 (ag.1 hwk),hv]
   simp only[Option.bind_some,if_pos hm]
   rw[hq]
   simp only[Option.bind_some]
   rw[Ac]
  ·rw[if_neg hm]at hop
   refine Ed hop (fun R k s2 ag hg=>by rw[hun,C9 (ag.1 hwk),hv];simp only[Option.bind_some,if_neg hm]) ?_
   rcases hc2 (by simpa using hm)with hc|hc|⟨hc,hn⟩<;>rw[hc]
   ·trivial
   ·rfl
   ·refine⟨rfl,fun h2 R k s2 ag hg=> ?_⟩
    rw[hun,C9 (ag.1 hwk),Ns hn s h2 h,hv];simp only[Option.bind_some,if_neg hm];rw[Ac]
 obtain⟨dst,op,type,pos,after,guard⟩:=o
 have mv:∀{x:Operand},(∀{R:Type} (st:St) (k:St→Option R),AM.op P (lo A) O fn rid i ⟨dst,op,type,pos,after,guard⟩ st k=(if AQ i ((lo A).take fn rid)then k ((st.give x).put dst (st.ev P (lo A) type x))else k (st.put dst (cp P type (st.ev P (lo A) type x)))))→
  x∈op.operands→MS P (lo A) fn rid i ⟨dst,op,type,pos,after,guard⟩= .n→(AQ i ((lo A).take fn rid)=true→Qu (lo A) fn rid i ⟨dst,op,type,pos,after,guard⟩=KW x)→XE P (lo A) fn rid i ⟨dst,op,type,pos,after,guard⟩=(!AQ i ((lo A).take fn rid)&&BF P depth type)→Form P (lo A) O fn rid i ⟨dst,op,type,pos,after,guard⟩ R s h k r:=by
  intro x hun hx hcls hg hwf0
  have hwf:(AQ i ((lo A).take fn rid)=true→XE P (lo A) fn rid i ⟨dst,op,type,pos,after,guard⟩=false)∧(AQ i ((lo A).take fn rid)=false→BF P depth type=true→XE P (lo A) fn rid i ⟨dst,op,type,pos,after,guard⟩=true):=
   ⟨fun h=>by rw[hwf0,h];rfl,fun h h'=>by rw[hwf0,h,h'];rfl⟩
  rw[hun]at hop
  by_cases ht:AQ i ((lo A).take fn rid)=true
  ·rw[if_pos ht]at hop
   rw[FW,Ac,←BZ]at hop
   have hE:∀h2,TG P (lo A) O fn rid i ⟨dst,op,type,pos,after,guard⟩ s h2 (FV s x++Gu dst ((⟨s,h⟩:St).ev P (lo A) type x)) h2:=by
    intro h2 R k s2 ag0 hg2
    have ag:=ag0.1 (hwf.1 ht)
    rw[hun,if_pos ht,FW,Ac,←BZ,←ag x hx type h h2,←FX (ag x hx)]
   refine⟨_,h,hop,fun p hp=> ?_,hE h,by rw[hcls];exact⟨rfl,hE⟩⟩
   rw[List.mem_append]at hp
   rcases hp with hp|hp
   ·exact .inr (by rw[hg ht];exact IZ hp)
   ·exact .inl (D6 hp)
  ·rw[if_neg ht]at hop
   have hE:∀h2,∀(R:Type) (k:St→Option R) (s2:List (Nat×V)),AG P (lo A) fn rid i ⟨dst,op,type,pos,after,guard⟩ s s2→HG (lo A) fn rid i s s2→AM.op P (lo A) O fn rid i ⟨dst,op,type,pos,after,guard⟩ ⟨s2,h2⟩ k=k (St.put ⟨s2,h2⟩ dst (cp P type ((⟨s,h⟩:St).ev P (lo A) type x))):=by
    intro h2 R k s2 ag hg2
    rw[hun,if_neg ht]
    have e:cp P type ((⟨s2,h2⟩:St).ev P (lo A) type x)=cp P type ((⟨s,h⟩:St).ev P (lo A) type x):=by
     unfold cp
     split
     ·rename_i hs;exact(ag.2 (hwf.2 (by simpa using ht) hs) x hx type h h2).symm
     ·rename_i hs;exact(ag.1 (by rw[hwf0];simp[hs]) x hx type h h2).symm
    rw[e]
   exact Ed hop (hE h) (by rw[hcls];exact⟨rfl,fun h2 R k s2 ag hg=>by rw[hE h2 R k s2 ag hg,Ac]⟩)
 have hop0:=hop
 replace hop:AM.op0 P (lo A) O fn rid i ⟨dst,op,type,pos,after,guard⟩ ⟨s,h⟩ k=some r:=hop
 unfold AM.op0 at hop
 simp only at hop
 split at hop
 · -- move
   rename_i x
   exact mv (x:=x) (fun st k=>rfl) (by simp[Op.operands]) rfl (fun ht=>by simp[Qu,ht]) rfl
 ·rename_i x
  exact mv (x:=x) (fun st k=>rfl) (by simp[Op.operands]) rfl (fun ht=>by simp[Qu,ht]) rfl
 · -- pick
   rename_i c x y
   rcases EY hop with⟨hb,hop⟩|⟨hb,hop⟩
   ·have hE:∀h2,∀(R:Type) (k:St→Option R) (s2:List (Nat×V)),AG P (lo A) fn rid i ⟨dst,.pick c x y,type,pos,after,guard⟩ s s2→HG (lo A) fn rid i s s2→AM.op P (lo A) O fn rid i ⟨dst,.pick c x y,type,pos,after,guard⟩ ⟨s2,h2⟩ k=k (St.put ⟨s2,h2⟩ dst (cp P type ((⟨s,h⟩:St).ev P (lo A) type x))):=by
     intro h2 R k s2 ag hg2
     have e:AM.op P (lo A) O fn rid i ⟨dst,.pick c x y,type,pos,after,guard⟩ ⟨s2,h2⟩ k=V.ite ((⟨s2,h2⟩:St).ev P (lo A) 0 c) (k (St.put ⟨s2,h2⟩ dst (cp P type ((⟨s2,h2⟩:St).ev P (lo A) type x)))) (k (St.put ⟨s2,h2⟩ dst (cp P type ((⟨s2,h2⟩:St).ev P (lo A) type y)))):=rfl
     rw[e,←ag.1 rfl c (by simp[Op.operands]) 0 h h2,←ag.1 rfl x (by simp[Op.operands]) type h h2,hb];rfl
    exact Ed hop (hE h) ⟨rfl,fun h2 R k s2 ag hg=>by rw[hE h2 R k s2 ag hg,Ac]⟩
   ·have hE:∀h2,∀(R:Type) (k:St→Option R) (s2:List (Nat×V)),AG P (lo A) fn rid i ⟨dst,.pick c x y,type,pos,after,guard⟩ s s2→HG (lo A) fn rid i s s2→AM.op P (lo A) O fn rid i ⟨dst,.pick c x y,type,pos,after,guard⟩ ⟨s2,h2⟩ k=k (St.put ⟨s2,h2⟩ dst (cp P type ((⟨s,h⟩:St).ev P (lo A) type y))):=by
     intro h2 R k s2 ag hg2
     have e:AM.op P (lo A) O fn rid i ⟨dst,.pick c x y,type,pos,after,guard⟩ ⟨s2,h2⟩ k=V.ite ((⟨s2,h2⟩:St).ev P (lo A) 0 c) (k (St.put ⟨s2,h2⟩ dst (cp P type ((⟨s2,h2⟩:St).ev P (lo A) type x)))) (k (St.put ⟨s2,h2⟩ dst (cp P type ((⟨s2,h2⟩:St).ev P (lo A) type y)))):=rfl
     rw[e,←ag.1 rfl c (by simp[Op.operands]) 0 h h2,←ag.1 rfl y (by simp[Op.operands]) type h h2,hb];rfl
    exact Ed hop (hE h) ⟨rfl,fun h2 R k s2 ag hg=>by rw[hE h2 R k s2 ag hg,Ac]⟩
 · -- alloc
   rename_i t
   rw[Ac]at hop
   exact⟨_,_,hop,fun p hp=>Bg hp,fun R k s2 ag hg=>by
    have e:AM.op P (lo A) O fn rid i ⟨dst,.alloc t,type,pos,after,guard⟩ ⟨s2,h⟩ k=k (St.put ⟨s2,h++[zero P t]⟩ dst (.ref h.length [] t)):=rfl
    rw[e,Ac],_,rfl,fun h2 hh R k s2 ag hg=>by
    have e:AM.op P (lo A) O fn rid i ⟨dst,.alloc t,type,pos,after,guard⟩ ⟨s2,h2⟩ k=k (St.put ⟨s2,h2++[zero P t]⟩ dst (.ref h2.length [] t)):=rfl
    rw[e,Ac,hh]⟩
 · -- box
   rename_i t x
   split at hop
   ·rename_i hok
    rw[Ac]at hop
    refine⟨_,_,hop,fun p hp=>Bg hp,fun R k s2 ag hg=> ?_,trivial⟩
    have e:AM.op P (lo A) O fn rid i ⟨dst,.box t x,type,pos,after,guard⟩ ⟨s2,h⟩ k=(if(CO P t (cp P t ((⟨s2,h⟩:St).ev P (lo A) t x))&&(cp P t ((⟨s2,h⟩:St).ev P (lo A) t x)).under h.length)=true then k (St.put ⟨s2,h++[cp P t ((⟨s2,h⟩:St).ev P (lo A) t x)]⟩ dst (.ref h.length [] t))else none):=rfl
    rw[e,←ag.1 rfl x (by simp[Op.operands]) t h h,if_pos hok,Ac]
   ·cases hop
 · -- store
   rename_i t ao x
   have hhb:LK ((lo A).home fn rid i) ((lo A).av fn rid i) ⟨s,h⟩ ((⟨s,h⟩:St).ev P (lo A) 0 ao)=true:=by
    split at hop
    ·assumption
    ·cases hop
   rw[if_pos hhb]at hop
   obtain⟨h',hs,hk⟩:=Option.bind_eq_some_iff.1 hop
   have hk':k ⟨ins (FV s x) s,h'⟩=some r:=by rw[FW]at hk;exact hk
   have eqs:∀{R:Type} {k:St→Option R} {s2:List (Nat×V)} {h2:List V},LK ((lo A).home fn rid i) ((lo A).av fn rid i) ⟨s,h2⟩ ((⟨s,h⟩:St).ev P (lo A) 0 ao)=true→AG P (lo A) fn rid i ⟨dst,.store t ao x,type,pos,after,guard⟩ s s2→HG (lo A) fn rid i s s2→
    AM.op P (lo A) O fn rid i ⟨dst,.store t ao x,type,pos,after,guard⟩ ⟨s2,h2⟩ k=(Gz P h2 t ((⟨s,h⟩:St).ev P (lo A) 0 ao) ((⟨s,h⟩:St).ev P (lo A) t x)).bind fun h'=>k ⟨ins (FV s x) s2,h'⟩:=by
    intro R k s2 h2 hb2 ag hg
    have e:AM.op P (lo A) O fn rid i ⟨dst,.store t ao x,type,pos,after,guard⟩ ⟨s2,h2⟩ k=(if LK ((lo A).home fn rid i) ((lo A).av fn rid i) ⟨s2,h2⟩ ((⟨s2,h2⟩:St).ev P (lo A) 0 ao)=true then(Gz P h2 t ((⟨s2,h2⟩:St).ev P (lo A) 0 ao) ((⟨s2,h2⟩:St).ev P (lo A) t x)).bind fun h'=>k {((⟨s2,h2⟩:St).give x)with h:=h'}else none):=rfl
    have e2:LK ((lo A).home fn rid i) ((lo A).av fn rid i) ⟨s2,h2⟩ ((⟨s,h⟩:St).ev P (lo A) 0 ao)=LK ((lo A).home fn rid i) ((lo A).av fn rid i) ⟨s,h2⟩ ((⟨s,h⟩:St).ev P (lo A) 0 ao):=by
     unfold LK
     split
     ·rename_i d hd
      simp only[St.get]
      rw[hg.1 d hd]
     ·have:((lo A).av fn rid i).map (⟨s2,h2⟩:St).get=((lo A).av fn rid i).map (⟨s,h2⟩:St).get:=List.map_congr_left fun d hd=>(hg.2 d hd).symm
      rw[this]
    rw[e,←ag.1 rfl ao (by simp[Op.operands]) 0 h h2,←ag.1 rfl x (by simp[Op.operands]) t h h2,e2,if_pos hb2]
    congr 1
    funext h'
    rw[FW,FX (ag.1 rfl x (by simp[Op.operands]))]
   refine⟨_,h',hk',fun p hp=> .inr (IZ hp),fun R k s2 ag hg=> ?_,?_⟩
   ·rw[eqs hhb ag hg,hs];rfl
   ·simp only[cls_lo,cls0]
    generalize (⟨s,h⟩:St).ev P (lo A) t x=vx at hs eqs
    generalize (⟨s,h⟩:St).ev P (lo A) 0 ao=a at hs hhb eqs
    cases hhome:(lo A).home fn rid i with
    |none=>
     rw[hhome]at hhb
     simp only[LK,avB,List.all_map,List.all_eq_true,Function.comp_apply]at hhb
     refine⟨fun sl hsl=> ?_,fun e=>by cases e⟩
     have hb:=hhb sl hsl
     split at hb
     rotate_left
     ·cases hb
     rename_i id p t1 id' p' t1' hl
     simp only[Bool.and_eq_true,Bool.not_eq_true']at hb
     have hlt:id<h.length:=Nat.le_of_ble_eq_true hb.2
     have hne:id≠id':=Nat.ne_of_beq_eq_false hb.1
     simp only[Gz]at hs
     split at hs
     rotate_left
     ·cases hs
     split at hs
     rotate_left
     ·cases hs
     unfold wr at hs
     obtain⟨y,hy,hw⟩:=Option.bind_eq_some_iff.1 hs
     obtain⟨y',hy',rfl⟩:=Option.map_eq_some_iff.1 hw
     exact⟨id,p,t1,h[id],hl,List.getElem?_eq_getElem hlt,by rw[BO hne];exact List.getElem?_eq_getElem hlt⟩
    |some sl=>
     rw[hhome]at hhb
     simp only[hhome]at eqs
     have hhb0:=hhb
     simp only[LK,RH,St.get]at hhb
     split at hhb
     rotate_left
     ·cases hhb
     rename_i id p t1 id' p' t1' hl
     obtain rfl:=Nat.eq_of_beq_eq_true hhb
     have hs':=hs
     simp only[Gz]at hs'
     split at hs'
     rotate_left
     ·cases hs'
     rename_i htt
     split at hs'
     rotate_left
     ·cases hs'
     rename_i hck
     have hw':=hs'
     unfold wr at hw'
     obtain⟨y,hy,hw'⟩:=Option.bind_eq_some_iff.1 hw'
     obtain⟨y',hy',rfl⟩:=Option.map_eq_some_iff.1 hw'
     refine⟨id,p,t1,y,y',hl,hy,rfl,fun h2 hh2 R k s2 ag hg=> ?_⟩
     rw[eqs (h2:=h2) (show LK (some sl) ((lo A).av fn rid i) ⟨s,h2⟩ (.ref id p' t1')=true from hhb0) ag hg]
     have:Gz P h2 t (.ref id p' t1') vx=some (h2.set id y'):=by
      simp only[Gz]
      rw[if_pos htt,if_pos hck]
      simp only[wr,hh2,Option.bind_some,hy',Option.map_some]
     rw[this]
     rfl
 · -- load
   exact UZ hop0
 · -- copy
   rename_i ar ts
   split at hop
   ·rename_i x y hxy
    obtain⟨q,hq,hk⟩:=Option.bind_eq_some_iff.1 hop
    rw[Ac]at hk
    refine⟨_,q.2,hk,fun p hp=>Bg hp,fun R k s2 ag hg=> ?_,trivial⟩
    have e:AM.op P (lo A) O fn rid i ⟨dst,.call {callee:= .builtin .copy,args:=ar,argTypes:=ts},type,pos,after,guard⟩ ⟨s2,h⟩ k=(match ar.toList with
     |[x,y]=>(Xb P (ts.getD 0 0) h ((⟨s2,h⟩:St).ev P (lo A) (ts.getD 0 0) x) ((⟨s2,h⟩:St).ev P (lo A) (ts.getD 1 0) y)).bind fun r=>k ({(⟨s2,h⟩:St)with h:=r.2}.put dst r.1)
     |_=>none):=rfl
    have m1:x∈ar:=by rw[←Array.mem_toList_iff,hxy];simp
    have m2:y∈ar:=by rw[←Array.mem_toList_iff,hxy];simp
    rw[e,hxy]
    dsimp only
    rw[←ag.1 rfl x (by simp[Op.operands,Call.operands,m1]) _ h h,←ag.1 rfl y (by simp[Op.operands,Call.operands,m2]) _ h h,hq]
    simp only[Option.bind_some]
    rw[Ac]
   ·cases hop
 · -- append
   rename_i ar ts
   obtain⟨v,hv,hop⟩:=Option.bind_eq_some_iff.1 hop
   have e:∀{R:Type} (s2:List (Nat×V)) (k:St→Option R),AM.op P (lo A) O fn rid i ⟨dst,.call {callee:= .builtin .append,args:=ar,argTypes:=ts},type,pos,after,guard⟩ ⟨s2,h⟩ k=
    (pureOp P (lo A) ⟨s2,h⟩ ⟨dst,.call {callee:= .builtin .append,args:=ar,argTypes:=ts},type,pos,after,guard⟩).bind fun v=>
    (if AQ i ((lo A).muts fn rid)then(match ar.toList with
     | .const (.slice none 0 0)::_=>(Dq (match ar.toList with|x::_=>(⟨s2,h⟩:St).give x|[]=>⟨s2,h⟩).h v).bind fun r=>k ({(match ar.toList with|x::_=>(⟨s2,h⟩:St).give x|[]=>⟨s2,h⟩)with h:=r.2}.put dst r.1)
     |_=>none)else k ((match ar.toList with|x::_=>(⟨s2,h⟩:St).give x|[]=>⟨s2,h⟩).put dst v)):=fun s2 k=>rfl
   have gv:∃w:List (Nat×V)→List (Nat×V),(∀s2,(match ar.toList with|x::_=>(⟨s2,h⟩:St).give x|[]=>⟨s2,h⟩)=(⟨ins (w s2) s2,h⟩:St))∧(∀p∈w s,p.1∈Qu (lo A) fn rid i ⟨dst,.call {callee:= .builtin .append,args:=ar,argTypes:=ts},type,pos,after,guard⟩∧p.2=(look p.1 s).weak)∧
    (∀s2,AGs P (lo A) ⟨dst,.call {callee:= .builtin .append,args:=ar,argTypes:=ts},type,pos,after,guard⟩ s s2→w s2=w s):=by
    cases hl:ar.toList with
    |nil=>exact⟨fun _=>[],fun s2=>rfl,by simp,fun _ _=>rfl⟩
    |cons x xs=>
     refine⟨fun s2=>FV s2 x,fun s2=>FW _ _ _,fun p hp=> ?_,fun s2 ag=>(FX (ag x ?_)).symm⟩
     ·simp only[Qu,hl];exact IZ hp
     ·have:x∈ar:=by rw[←Array.mem_toList_iff,hl];simp
      simp[Op.operands,Call.operands,this]
   obtain⟨wf,hw1,hw2,hw3⟩:=gv
   simp only[hw1]at e
   clear hop
   have hop:=hop0
   rw[e,hv]at hop
   simp only[Option.bind_some]at hop
   by_cases hm:AQ i ((lo A).muts fn rid)=true
   ·rw[if_pos hm]at hop
    split at hop
    ·rename_i tl hxx
     obtain⟨q,hq,hk⟩:=Option.bind_eq_some_iff.1 hop
     rw[Ac,←BZ]at hk
     refine⟨_,q.2,hk,fun p hp=> ?_,fun R k s2 ag hg=> ?_,by simp[cls_lo,cls0,hm,CF]⟩
     ·rw[List.mem_append]at hp
      rcases hp with hp|hp
      ·exact .inr (hw2 p hp)
      ·exact .inl (D6 hp)
     ·rw[e,C9 (ag.1 rfl),hv]
      simp only[Option.bind_some,if_pos hm,hxx,hq]
      rw[Ac,←BZ,hw3 s2 (ag.1 rfl)]
    ·cases hop
   ·rw[if_neg hm]at hop
    rw[Ac,←BZ]at hop
    refine⟨_,h,hop,fun p hp=> ?_,fun R k s2 ag hg=> ?_,by simp[cls_lo,cls0,hm,CF]⟩
    ·rw[List.mem_append]at hp
     rcases hp with hp|hp
     ·exact .inr (hw2 p hp)
     ·exact .inl (D6 hp)
    ·rw[e,C9 (ag.1 rfl),hv]
     simp only[Option.bind_some,if_neg hm]
     rw[Ac,←BZ,hw3 s2 (ag.1 rfl)]
 · -- a call
   rename_i x ar ts
   have e:∀{R:Type} (s2:List (Nat×V)) (h2:List V) (k:St→Option R),AM.op P (lo A) O fn rid i ⟨dst,.call {callee:= .value x,args:=ar,argTypes:=ts},type,pos,after,guard⟩ ⟨s2,h2⟩ k=
    DX P (lo A) O ((lo A).fld fn rid i).isSome (((lo A).home fn rid i).map (⟨s2,h2⟩:St).get) (((lo A).av fn rid i).map (⟨s2,h2⟩:St).get) ((⟨s2,h2⟩:St).ev P (lo A) 0 x) (args P (lo A) ⟨s2,h2⟩ {callee:= .value x,args:=ar,argTypes:=ts}) h2 fun v h=>if(isFn x||v.noOwn)=true then k ({(⟨s2,h2⟩:St)with h:=h}.put dst v)else none:=fun _ _ _=>rfl
   have ce:∀{R:Type} (s2:List (Nat×V)) (h2:List V) (k:St→Option R),AG P (lo A) fn rid i ⟨dst,.call {callee:= .value x,args:=ar,argTypes:=ts},type,pos,after,guard⟩ s s2→HG (lo A) fn rid i s s2→
    AM.op P (lo A) O fn rid i ⟨dst,.call {callee:= .value x,args:=ar,argTypes:=ts},type,pos,after,guard⟩ ⟨s2,h2⟩ k=
    DX P (lo A) O ((lo A).fld fn rid i).isSome (((lo A).home fn rid i).map (⟨s,h⟩:St).get) (((lo A).av fn rid i).map (⟨s,h⟩:St).get) ((⟨s,h⟩:St).ev P (lo A) 0 x) (args P (lo A) ⟨s,h⟩ {callee:= .value x,args:=ar,argTypes:=ts}) h2 fun v h'=>if(isFn x||v.noOwn)=true then k (St.put ⟨s2,h'⟩ dst v)else none:=by
    intro R s2 h2 k ag0 hg
    have ag:=ag0.1 rfl
    rw[e,←ag x (by simp[Op.operands,Call.operands]) 0 h h2]
    have e1:((lo A).home fn rid i).map (⟨s2,h2⟩:St).get=((lo A).home fn rid i).map (⟨s,h⟩:St).get:=by
     cases hh:(lo A).home fn rid i with
     |none=>rfl
     |some d=>simp only[Option.map_some,St.get];rw[hg.1 d hh]
    have e3:((lo A).av fn rid i).map (⟨s2,h2⟩:St).get=((lo A).av fn rid i).map (⟨s,h⟩:St).get:=List.map_congr_left fun d hd=>(hg.2 d hd).symm
    have e2:args P (lo A) ⟨s2,h2⟩ {callee:= .value x,args:=ar,argTypes:=ts}=args P (lo A) ⟨s,h⟩ {callee:= .value x,args:=ar,argTypes:=ts}:=by
     simp only[args]
     refine List.map_congr_left fun p hp=> ?_
     obtain⟨y,t⟩:=p
     have:y∈ar:=by have:=(List.of_mem_zip hp).1;simpa using this
     exact(ag y (by simp[Op.operands,Call.operands,this]) t h h2).symm
    rw[e1,e2,e3]
   have hop2:DX P (lo A) O ((lo A).fld fn rid i).isSome (((lo A).home fn rid i).map (⟨s,h⟩:St).get) (((lo A).av fn rid i).map (⟨s,h⟩:St).get) ((⟨s,h⟩:St).ev P (lo A) 0 x) (args P (lo A) ⟨s,h⟩ {callee:= .value x,args:=ar,argTypes:=ts}) h (fun v h'=>if(isFn x||v.noOwn)=true then k (St.put ⟨s,h'⟩ dst v)else none)=some r:=hop0
   generalize hxv:(⟨s,h⟩:St).ev P (lo A) 0 x=xv at hop2 ce
   generalize args P (lo A) ⟨s,h⟩ {callee:= .value x,args:=ar,argTypes:=ts}=vs at hop2 ce
   by_cases hfd:((lo A).fld fn rid i).isSome=true
   · -- boxes are left as they are
     rw[hfd]at hop2 ce
     simp only[DX]at hop2 ce
     obtain⟨m,hm,hop2⟩:=Option.bind_eq_some_iff.1 hop2
     obtain⟨v,h',hk,hall⟩:=FY hop2
     split at hk
     rotate_left
     ·cases hk
     rename_i hok
     split at hk
     rotate_left
     ·cases hk
     rename_i hnox
     rw[Ac]at hk
     have hml:m≤h.length:=(MR hm).1
     have hlen:h'.length=m:=by
      simp only[Bool.and_eq_true]at hok
      exact Nat.eq_of_beq_eq_true hok.1
     have hlen2:(h'++h.drop m).length=h.length:=by rw[List.length_append,List.length_drop];omega
     refine⟨_,h'++h.drop m,hk,fun p hp=>Bg hp,fun R k s2 ag hg=>by rw[ce s2 h k ag hg,hm];simp only[Option.bind_some];rw[hall,if_pos hok,if_pos hnox,Ac],?_⟩
     simp only[cls_lo,cls0,hfd,if_true]
     simp only[Bool.and_eq_true]at hok
     refine⟨fun sl hsl=> ?_,fun _=>⟨hlen2,fun z R k s2 ag hg=> ?_⟩⟩
     ·have hkp:=List.all_eq_true.1 hok.2 _ (List.mem_map.2 ⟨sl,hsl,rfl⟩)
      split at hkp
      rotate_left
      ·cases hkp
      rename_i id p t hl
      split at hkp
      rotate_left
      ·cases hkp
      rename_i y y' e1 e2
      obtain rfl:=V.same_eq _ _ hkp
      exact⟨id,p,t,y,hl,e1,e2⟩
     ·rw[ce s2 (h++[z]) k ag hg]
      have hm2:U5 (h++[z]) (xv::vs)=some m:=by
       unfold U5 at hm⊢
       rw[List.length_append,List.length_singleton,List.range_succ,List.find?_append,hm];rfl
      have ht:(h++[z]).take m=h.take m:=List.take_append_of_le_length hml
      have hd:(h++[z]).drop m=h.drop m++[z]:=List.drop_append_of_le_length hml
      have hkz:ZL (h++[z]) (h'++(h++[z]).drop m) (((lo A).av fn rid i).map (⟨s,h⟩:St).get)=true:=by
       rw[hd,←List.append_assoc]
       refine List.all_eq_true.2 fun x hx=> ?_
       have hkp:=List.all_eq_true.1 hok.2 x hx
       split at hkp
       rotate_left
       ·cases hkp
       split at hkp
       rotate_left
       ·cases hkp
       rename_i y y' e1 e2
       have f1:(h++[z])[_]?=some y:=(List.getElem?_append_left (Af e1)).trans e1
       have f2:(h'++h.drop m++[z])[_]?=some y':=(List.getElem?_append_left (Af e2)).trans e2
       simp only[f1,f2]
       exact hkp
      rw[hm2]
      simp only[Option.bind_some]
      rw[ht,hall]
      rw[if_pos (by rw[hok.1,hkz];rfl),if_pos hnox,Ac,hd,List.append_assoc]
   rw[Bool.not_eq_true]at hfd
   rw[hfd]at hop2 ce
   simp only[DX]at hop2 ce
   cases hhome:(lo A).home fn rid i with
   |none=>
    rw[hhome]at hop2 ce
    simp only[Option.map_none,Eg]at hop2 ce
    obtain⟨v,h',hk,hall⟩:=FY hop2
    split at hk
    rotate_left
    ·cases hk
    rename_i hnox
    rw[Ac]at hk
    refine⟨_,h',hk,fun p hp=>Bg hp,fun R k s2 ag hg=>by rw[ce s2 h k ag hg,hall,if_pos hnox,Ac],?_⟩
    simp only[cls_lo,cls0,hhome,hfd,Bool.false_eq_true,if_false]
    cases x with
    |func f=>
     dsimp only
     split
     ·rename_i hp
      simp only[Bool.and_eq_true,Bool.not_eq_true']at hp
      obtain⟨⟨hp1,hp2⟩,hp3⟩:=hp
      have hp3:¬((lo A).seq f).1≠0:=fun h=>h (Nat.eq_of_beq_eq_true hp3)
      have hxv':xv= .clo f []:=hxv.symm
      rw[hxv']at hall
      have:=hall (V×List V) (fun a b=>some (a,b))
      simp only[CX,GI,hp1,hp2,if_true,if_false,Bool.false_eq_true]at this
      rw[if_neg hp3]at this
      obtain⟨q,hq,hk2⟩:=Option.bind_eq_some_iff.1 this
      simp only[Option.some.injEq,Prod.mk.injEq]at hk2
      exact hk2.2.symm
     ·trivial
    |_=>trivial
   |some d=>
    rw[hhome]at hop2 ce
    simp only[Option.map_some,Eg]at hop2 ce
    split at hop2
    ·rename_i hh;cases hh
    ·rename_i id p t hh
     simp only[Option.some.injEq]at hh
     simp only[hh]at ce
     split at hop2
     ·rename_i y hy
      split at hop2
      ·rename_i hok
       obtain⟨v,h',hk,hall⟩:=FY hop2
       split at hk
       ·rename_i hok2
        split at hk
        rotate_left
        ·cases hk
        rename_i hnox
        rw[Ac]at hk
        have hlen:id<h.length:=Af hy
        refine⟨_,_,hk,fun p hp=>Bg hp,fun R k s2 ag hg=> ?_,?_⟩
        ·rw[ce s2 h k ag hg]
         simp only[hy,hok,if_true]
         rw[hall]
         simp only[hok2,if_true,hnox]
         rw[Ac]
        ·simp only[cls_lo,cls0,hhome,hfd,Bool.false_eq_true,if_false]
         have hl':id<h'.length:=by
          simp only[Bool.and_eq_true]at hok2
          exact Nat.le_of_ble_eq_true hok2.2
         refine⟨id,p,t,y,hh,hy,set_self hl',fun y2 R k s2 ag hg=> ?_⟩
         rw[ce s2 _ k ag hg]
         rw[set_self hlen]
         simp only[List.set_set,hok,if_true]
         rw[hall]
         simp only[hok2,if_true,hnox]
         rw[Ac]
       ·cases hk
      ·cases hop2
     ·cases hop2
    ·cases hop2
 · -- all others
   rename_i n1 n2 n3 n4 n5 n6 n7 n8 n9 n10
   cases op
   case call cl=>
    obtain⟨callee,ar,ts⟩:=cl
    cases callee with
    |value x=>exact(n10 _ _ _ rfl).elim
    |invoke x n=>exact rest (fun st k=>rfl) (fun hm=>by simp[cls_lo,cls0]) (fun hm=>by simp[cls_lo,cls0]) rfl
    |builtin b=>
     cases b<;>first
      |exact rest (fun st k=>rfl) (fun hm=>by simp[cls_lo,cls0,hm]) (fun hm=>by simp[cls_lo,cls0,hm,GX]) rfl
      |(exfalso;solve_by_elim)
   case convert a b x=>exact rest (fun st k=>rfl) (fun hm=>by simp[cls_lo,cls0,hm]) (fun hm=>by
    simp only[cls_lo,cls0,hm,GX,Bool.false_eq_true,if_false]
    split
    ·rename_i hs;exact .inr (.inr ⟨rfl,hs⟩)
    ·exact .inr (.inl rfl)) rfl
   all_goals first
    |exact rest (fun st k=>rfl) (fun hm=>by simp[cls_lo,cls0,hm]) (fun hm=>by simp[cls_lo,cls0,hm,GX]) rfl
    |(exfalso;solve_by_elim)
mutual
theorem Ub (h h2:List V):∀v:V,v.under 0=true→v.reify h=v.reify h2
 | .agg t fs,hv=>by simp only[V.reify];rw[D7 h h2 fs hv]
 | .lst e .lent xs,hv=>by simp only[V.reify];rw[D7 h h2 xs hv]
 | .lst e .own xs,_=>rfl
 | .lst e .sh xs,_=>rfl
 | .lst e .nil xs,_=>rfl
 | .lst e .non xs,_=>rfl
 | .clo f cs,hv=>by simp only[V.reify];rw[D7 h h2 cs hv]
 | .win id p o l e,hv=>by simp[V.under]at hv
 | .ref _ _ _,_=>rfl
 | .rop _ _,_=>rfl
 | .row _ _,_=>rfl
 | .tup _,_=>rfl
 | .bool _,_=>rfl
 | .int _ _,_=>rfl
 | .str _,_=>rfl
 | .nilp,_=>rfl
 | .nilf,_=>rfl
 | .nili,_=>rfl
 | .ifv,_=>rfl
 | .undef,_=>rfl
theorem D7 (h h2:List V):∀vs:List V,AU 0 vs=true→AP h vs=AP h2 vs
 |[],_=>rfl
 |v::vs,hv=>by
  simp only[AU,Bool.and_eq_true]at hv
  simp only[AP];rw[Ub h h2 v hv.1,D7 h h2 vs hv.2]
end
theorem I9 {v:V} (h h2:List V) (hv:v.under 0=true):Aj h v=Aj h2 v:=by
 cases v<;>first|rfl|simp[V.under]at hv
theorem Yt {v:V} (h h2:List V) (t:TypeId) (hv:v.under 0=true):BI h t v=BI h2 t v:=by
 cases v<;>first|rfl|simp[V.under]at hv
theorem Gv {n:Nat}:∀{vs:List V} {v:V},AU n vs=true→v∈vs→v.under n=true
 |x::xs,v,h,hv=>by
  simp only[AU,Bool.and_eq_true]at h
  rcases List.mem_cons.1 hv with rfl|hv
  ·exact h.1
  ·exact Gv h.2 hv
theorem MW {n:Nat}:∀{vs:List V},(∀v∈vs,v.under n=true)→AU n vs=true
 |[],_=>rfl
 |x::xs,h=>by simp only[AU,h x List.mem_cons_self,MW fun v hv=>h v (List.mem_cons_of_mem _ hv),Bool.and_self]
theorem Uc (n:Nat) (t u:TypeId) (c:Value) (hx:(cst P t c).under n=true):(cst P u c).under n=true:=by
 unfold cst at*
 split at hx<;>first|exact hx|(split<;>first|rfl|exact hx|skip)
theorem Ia {s:List (Nat×V)} {h:List V} (t u:TypeId) {x:Operand} (hx:((⟨s,h⟩:St).ev P A t x).under 0=true):((⟨s,h⟩:St).ev P A u x).under 0=true:=by
 cases x with
 |const c=>exact Uc 0 t u c hx
 |_=>exact hx
theorem XG {R:Type} {fn:FuncId} {rid i:Nat} {o:Oper} (s:List (Nat×V)) (h h2:List V) (k:St→Option R) (hc:cls0 P A fn rid i o= .ro∨cls0 P A fn rid i o= .ld none)
 (hl:AU 0 ((lowL o.op).map ((⟨s,h⟩:St).ev P A 0))=true):op0 P A O fn rid i o ⟨s,h2⟩ k=(op0 P A O fn rid i o ⟨s,h⟩ some).bind fun st=>k ⟨st.s,h2⟩:=by
 obtain⟨dst,op,type,pos,after,guard⟩:=o
 have puts:∀(v:V) (h:List V),(St.put ⟨s,h⟩ dst v).s=(St.put ⟨s,h2⟩ dst v).s∧(St.put ⟨s,h2⟩ dst v).h=h2:=fun v h=>by cases dst<;>exact⟨rfl,rfl⟩
 have fin:∀(x:Option V),(x.bind fun v=>k (St.put ⟨s,h2⟩ dst v))=(x.bind fun v=>some (St.put ⟨s,h⟩ dst v)).bind fun st=>k ⟨st.s,h2⟩:=fun x=>by
  cases x with
  |none=>rfl
  |some v=>
   simp only[Option.bind_some]
   rw[(puts v h).1]
   cases dst<;>rfl
 cases op<;>first
  |(simp only[cls0]at hc;(rcases hc with hc|hc<;>cases hc);done)
  |(simp only[cls0]at hc;split at hc<;>(rcases hc with hc|hc<;>cases hc);done)
  |skip
 case load t a=>
  simp only[cls0]at hc
  split at hc
  ·split at hc
   ·split at hc<;>(rcases hc with hc|hc<;>cases hc)
   ·rcases hc with hc|hc<;>cases hc
  ·rename_i ht
   have hh:A.home fn rid i=none:=by
    rcases hc with hc|hc
    ·cases hc
    ·exact Cls.ld.inj hc
   have ha:((⟨s,h⟩:St).ev P A 0 a).under 0=true:=by simpa [lowL,AU]using hl
   have e:∀{R:Type} (h':List V) (k:St→Option R),op0 P A O fn rid i ⟨dst,.load t a,type,pos,after,guard⟩ ⟨s,h'⟩ k=(if(LJ (A.home fn rid i) (A.fld fn rid i) ⟨s,h'⟩ ((⟨s,h⟩:St).ev P A 0 a)&&Ep (A.home fn rid i) ⟨s,h'⟩ ((⟨s,h⟩:St).ev P A 0 a))=true then if AQ i (A.take fn rid)then(Df h' t ((⟨s,h⟩:St).ev P A 0 a)).bind fun r=>k ({(⟨s,h'⟩:St)with h:=r.2}.put dst r.1)
    else(if BF P depth t then GH h' t ((⟨s,h⟩:St).ev P A 0 a)else BI h' t ((⟨s,h⟩:St).ev P A 0 a)).bind fun v=>k ((⟨s,h'⟩:St).put dst v)else none):=fun h' k=>by rw[Ua s h h'];rfl
   rw[e,e,hh]
   have e3:∀h',(LJ none (A.fld fn rid i) ⟨s,h'⟩ ((⟨s,h⟩:St).ev P A 0 a)&&Ep none ⟨s,h'⟩ ((⟨s,h⟩:St).ev P A 0 a))=(A.fld fn rid i).isNone:=by
    intro h';cases A.fld fn rid i<;>rfl
   simp only[e3,if_neg ht]
   cases hfl:A.fld fn rid i with
   |some k=>rfl
   |none=>
   simp only[Option.isNone_none,if_true]
   have e2:(if BF P depth t then GH h2 t ((⟨s,h⟩:St).ev P A 0 a)else BI h2 t ((⟨s,h⟩:St).ev P A 0 a))=(if BF P depth t then GH h t ((⟨s,h⟩:St).ev P A 0 a)else BI h t ((⟨s,h⟩:St).ev P A 0 a)):=by
    unfold GH;rw[Yt h2 h t ha]
   rw[e2]
   exact fin _
 case convert a b x=>
  by_cases hm:AQ i (A.muts fn rid)=true
  ·simp only[cls0,hm,if_true]at hc
   rcases hc with hc|hc<;>cases hc
  ·have hx:((⟨s,h⟩:St).ev P A a x).under 0=true:=Ia 0 a (by simpa [lowL,AU]using hl)
   have e:∀{R:Type} (h':List V) (k:St→Option R),op0 P A O fn rid i ⟨dst,.convert a b x,type,pos,after,guard⟩ ⟨s,h'⟩ k=(conv P h' a b ((⟨s,h⟩:St).ev P A a x)).bind fun v=>if AQ i (A.muts fn rid)then(Dq h' v).bind fun r=>k ({(⟨s,h'⟩:St)with h:=r.2}.put dst r.1)else k ((⟨s,h'⟩:St).put dst v):=fun h' k=>by rw[Ua s h h'];rfl
   replace e:∀{R:Type} (h':List V) (k:St→Option R),op0 P A O fn rid i ⟨dst,.convert a b x,type,pos,after,guard⟩ ⟨s,h'⟩ k=(conv P h' a b ((⟨s,h⟩:St).ev P A a x)).bind fun v=>k ((⟨s,h'⟩:St).put dst v):=fun h' k=>by
    rw[e];congr 1;funext v;exact if_neg hm
   have e2:conv P h2 a b ((⟨s,h⟩:St).ev P A a x)=conv P h a b ((⟨s,h⟩:St).ev P A a x):=by
    have hcon:=I9 h2 h hx
    unfold conv
    split
    ·rfl
    ·rfl
    ·rfl
    ·rw[hcon]
    ·rfl
   rw[e,e,e2]
   exact fin _
 case call cl=>
  obtain⟨callee,ar,ts⟩:=cl
  cases callee with
  |invoke x n=>simp only[cls0]at hc;rcases hc with hc|hc<;>cases hc
  |builtin b=>
   cases b<;>first
    |(simp only[cls0]at hc;(rcases hc with hc|hc<;>cases hc);done)
    |(simp only[cls0]at hc;split at hc<;>(rcases hc with hc|hc<;>cases hc);done)
    |skip
   case append=>
    simp only[cls0]at hc
    split at hc
    ·rcases hc with hc|hc<;>cases hc
    rename_i hm
    have e:∀{R:Type} (h':List V) (k:St→Option R),op0 P A O fn rid i ⟨dst,.call {callee:= .builtin .append,args:=ar,argTypes:=ts},type,pos,after,guard⟩ ⟨s,h'⟩ k=
     (match ar.toList with
      |[x,y]=>Ea P (ts.getD 0 0) h' ((⟨s,h⟩:St).ev P A (ts.getD 0 0) x) ((⟨s,h⟩:St).ev P A (ts.getD 1 0) y)
      |_=>none).bind fun v=>
     (if AQ i (A.muts fn rid)then(match ar.toList with
      | .const (.slice none 0 0)::_=>(Dq (match ar.toList with|x::_=>(⟨s,h'⟩:St).give x|[]=>⟨s,h'⟩).h v).bind fun r=>k ({(match ar.toList with|x::_=>(⟨s,h'⟩:St).give x|[]=>⟨s,h'⟩)with h:=r.2}.put dst r.1)
      |_=>none)else k ((match ar.toList with|x::_=>(⟨s,h'⟩:St).give x|[]=>⟨s,h'⟩).put dst v)):=fun h' k=>by
     have:op0 P A O fn rid i ⟨dst,.call {callee:= .builtin .append,args:=ar,argTypes:=ts},type,pos,after,guard⟩ ⟨s,h'⟩ k=(match ar.toList with
      |[x,y]=>Ea P (ts.getD 0 0) h' ((⟨s,h'⟩:St).ev P A (ts.getD 0 0) x) ((⟨s,h'⟩:St).ev P A (ts.getD 1 0) y)
      |_=>none).bind _:=rfl
     rw[this]
     congr 1
    have e2:(match ar.toList with
     |[x,y]=>Ea P (ts.getD 0 0) h2 ((⟨s,h⟩:St).ev P A (ts.getD 0 0) x) ((⟨s,h⟩:St).ev P A (ts.getD 1 0) y)
     |_=>none)=(match ar.toList with
     |[x,y]=>Ea P (ts.getD 0 0) h ((⟨s,h⟩:St).ev P A (ts.getD 0 0) x) ((⟨s,h⟩:St).ev P A (ts.getD 1 0) y)
     |_=>none):=by
     split
     ·rename_i x y hxy
      have hy:((⟨s,h⟩:St).ev P A (ts.getD 1 0) y).under 0=true:=Ia 0 _ (Gv hl (by simp only[lowL,hxy];simp))
      unfold Ea;rw[I9 h2 h hy]
     ·rfl
    rw[e,e,e2]
    simp only[if_neg hm]
    generalize (match ar.toList with
     |[x,y]=>Ea P (ts.getD 0 0) h ((⟨s,h⟩:St).ev P A (ts.getD 0 0) x) ((⟨s,h⟩:St).ev P A (ts.getD 1 0) y)
     |_=>none)=q
    cases q with
    |none=>rfl
    |some v=>
     simp only[Option.bind_some]
     cases ar.toList with
     |nil=>cases dst<;>rfl
     |cons x xs=>cases x<;>cases dst<;>rfl
  |value x=>
   simp only[cls0]at hc
   by_cases hfd:(A.fld fn rid i).isSome=true
   ·simp only[hfd,if_true]at hc
    rcases hc with hc|hc<;>cases hc
   simp only[hfd,if_false,Bool.false_eq_true]at hc
   rw[Bool.not_eq_true]at hfd
   split at hc
   ·rcases hc with hc|hc<;>cases hc
   ·rename_i hh
    cases x with
    |func f=>
     simp only at hc
     split at hc
     ·rename_i hp
      simp only[Bool.and_eq_true,Bool.not_eq_true']at hp
      obtain⟨⟨hp1,hp2⟩,hp3⟩:=hp
      have hp3:¬(A.seq f).1≠0:=fun h=>h (Nat.eq_of_beq_eq_true hp3)
      have hvs:AU 0 (args P A ⟨s,h⟩ {callee:= .value (.func f),args:=ar,argTypes:=ts})=true:=by
       refine MW fun v hv=> ?_
       simp only[args,List.mem_map]at hv
       obtain⟨⟨y,t⟩,hy,rfl⟩:=hv
       refine Ia 0 t (Gv hl ?_)
       simp only[lowL,List.mem_map]
       exact⟨y,(List.of_mem_zip hy).1,rfl⟩
      have e:∀{R:Type} (h':List V) (k:St→Option R),op0 P A O fn rid i ⟨dst,.call {callee:= .value (.func f),args:=ar,argTypes:=ts},type,pos,after,guard⟩ ⟨s,h'⟩ k=
       (Ja A O f (AP h (args P A ⟨s,h⟩ {callee:= .value (.func f),args:=ar,argTypes:=ts}))).bind fun r=>k (St.put ⟨s,h'⟩ dst r.1):=fun h' k=>by
       have ea:args P A ⟨s,h'⟩ {callee:= .value (.func f),args:=ar,argTypes:=ts}=args P A ⟨s,h⟩ {callee:= .value (.func f),args:=ar,argTypes:=ts}:=by
        simp only[args]
        exact List.map_congr_left fun p _=>Ua s h' h p.2 p.1
       have:op0 P A O fn rid i ⟨dst,.call {callee:= .value (.func f),args:=ar,argTypes:=ts},type,pos,after,guard⟩ ⟨s,h'⟩ k=
        DX P A O (A.fld fn rid i).isSome ((A.home fn rid i).map (⟨s,h'⟩:St).get) ((A.av fn rid i).map (⟨s,h'⟩:St).get) (.clo f []) (args P A ⟨s,h'⟩ {callee:= .value (.func f),args:=ar,argTypes:=ts}) h' fun v h=>if(isFn (.func f)||v.noOwn)=true then k ({(⟨s,h'⟩:St)with h:=h}.put dst v)else none:=rfl
       rw[this,hh,ea,hfd]
       simp only[DX,Option.map_none,Eg,CX,GI,hp2,Bool.false_eq_true,if_false,if_neg hp3,hp1,if_true,List.append_nil,isFn,Bool.true_or]
       rw[D7 h' h _ hvs]
      rw[e,e]
      generalize Ja A O f _=q
      cases q with
      |none=>rfl
      |some r=>exact fin (some r.1)
     ·rcases hc with hc|hc<;>cases hc
    |_=>rcases hc with hc|hc<;>cases hc
theorem XH {fn:FuncId} {rid i:Nat} {o:Oper} {s s2:List (Nat×V)} {h h2:List V} (ag:AG P A fn rid i o s s2):(lowL o.op).map ((⟨s2,h2⟩:St).ev P A 0)=(lowL o.op).map ((⟨s,h⟩:St).ev P A 0):=by
 obtain⟨dst,op,type,pos,after,guard⟩:=o
 cases op<;>first
  |rfl
  |skip
 case load t a=>simp only[lowL,List.map_cons,List.map_nil];rw[ag.1 rfl a (by simp[Op.operands]) 0 h h2]
 case convert a b x=>simp only[lowL,List.map_cons,List.map_nil];rw[ag.1 rfl x (by simp[Op.operands]) 0 h h2]
 case call cl=>
  simp only[lowL]
  refine List.map_congr_left fun y hy=>(ag.1 rfl y ?_ 0 h h2).symm
  have:y∈cl.args:=by simpa using hy
  simp[Op.operands,Call.operands,this]
theorem Zj {R:Type} (fn:FuncId) (rid i:Nat) (o:Oper) (st:St) (k:St→Option R):
 op P A O fn rid i o st k=if AA5 (AQ i (A.low fn rid)) ((lowL o.op).map (st.ev P A 0))=true then op P (lo A) O fn rid i o st k else none:=rfl
theorem Yu {R:Type} {fn:FuncId} {rid i:Nat} {o:Oper} {s:List (Nat×V)} {h:List V} {k:St→Option R} {r:R} (hop:op P A O fn rid i o ⟨s,h⟩ k=some r):Form P A O fn rid i o R s h k r:=by
 rw[Zj]at hop
 split at hop
 rotate_left
 ·cases hop
 rename_i hlow
 obtain⟨ws,h',hk,hw,he,hcf⟩:=XF hop
 have lift:∀{h h':List V},TG P (lo A) O fn rid i o s h ws h'→TG P A O fn rid i o s h ws h':=by
  intro h1 h1' e R k s2 ag hg
  rw[Zj,XH (h:=h) ag,if_pos hlow]
  exact e R k s2 ag hg
 refine⟨ws,h',hk,hw,lift he,?_⟩
 have base:CF P A O fn rid i o (cls0 P A fn rid i o) s h ws h':=by
  have hcf:CF P (lo A) O fn rid i o (cls0 P A fn rid i o) s h ws h':=hcf
  generalize cls0 P A fn rid i o=c at hcf
  cases c with
  |n=>exact⟨hcf.1,fun h2=>lift (hcf.2 h2)⟩
  |ro=>exact hcf
  |ld home=>exact⟨hcf.1,fun z=>lift (hcf.2.1 z),fun sl hsl=>by obtain⟨id,p,t,y,y',a1,a2,a3,a4⟩:=hcf.2.2 sl hsl;exact⟨id,p,t,y,y',a1,a2,a3,fun h2 hh=>lift (a4 h2 hh)⟩⟩
  |tk sl=>obtain⟨id,p,t,y,y',a1,a2,a3,a4⟩:=hcf;exact⟨id,p,t,y,y',a1,a2,a3,fun h2 hh=>lift (a4 h2 hh)⟩
  |tf sl k=>obtain⟨⟨id,p,t,y,y',a1,a2,a3,a4⟩,hf⟩:=hcf;exact⟨⟨id,p,t,y,y',a1,a2,a3,fun h2 hh=>lift (a4 h2 hh)⟩,hf.mono fun _ _=>lift⟩
  |hid sl=>obtain⟨id,p,t,y,a1,a2,a3,a4⟩:=hcf;exact⟨id,p,t,y,a1,a2,a3,fun y2=>lift (a4 y2)⟩
  |kp l c=>exact⟨hcf.1,fun e=>⟨(hcf.2 e).1,fun z=>lift ((hcf.2 e).2 z)⟩⟩
  |al=>obtain⟨z,a1,a2⟩:=hcf;exact⟨z,a1,fun h2 hh=>lift (a2 h2 hh)⟩
  |wr=>trivial
 have toN:(cls0 P A fn rid i o= .ro∨cls0 P A fn rid i o= .ld none)→AQ i (A.low fn rid)=true→CF P A O fn rid i o .n s h ws h':=by
  intro hc hlo
  have hh:h'=h:=by rcases hc with hc|hc<;>rw[hc]at base<;>first|exact base|exact base.1
  subst hh
  refine⟨rfl,fun h2=>lift ?_⟩
  intro R k s2 ag hg
  have hl:AU 0 ((lowL o.op).map ((⟨s2,h'⟩:St).ev P (lo A) 0))=true:=by
   have:=hlow
   rw[hlo]at this
   rw[XH (h:=h') (A:=lo A) ag];exact this
  have e1:=XG (A:=lo A) (O:=O) s2 h' h2 k hc hl
  have e2:op0 P (lo A) O fn rid i o ⟨s2,h'⟩ some=some ⟨ins ws s2,h'⟩:=he St some s2 ag hg
  rw[e2]at e1
  exact e1
 unfold MS
 cases hlo:AQ i (A.low fn rid)with
 |false=>exact base
 |true=>
  simp only[cond_true]
  split
  ·rename_i hc;exact toN (.inl hc) hlo
  ·rename_i hc;exact toN (.inr hc) hlo
  ·exact base
end
end AM
end
section
namespace AM
open Go
section
variable {P:Program} {A:Ann} {O:Orc}
theorem P7 (a b:Nat) (v u:V) (hab:a≠b):∀s:List (Nat×V),insert a v (insert b u s)=insert b u (insert a v s):=by
 have blt:∀{x y:Nat},Nat.blt x y=true↔x<y:=fun{x y}=>⟨fun h=>Nat.le_of_ble_eq_true h,fun h=>Nat.ble_eq_true_of_le h⟩
 have beq:∀{x y:Nat},Nat.beq x y=true↔x=y:=fun{x y}=>⟨Nat.eq_of_beq_eq_true,fun h=>by subst h;exact Nat.beq_refl x⟩
 have key:∀(t:Nat) (w:V) (i:Nat) (x:V) (s:List (Nat×V)),insert t w ((i,x)::s)=if t<i then(t,w)::(i,x)::s else if i=t then(t,w)::s else(i,x)::insert t w s:=by
  intro t w i x s
  simp only[insert]
  by_cases h1:t<i
  ·rw[blt.2 h1,if_pos h1];rfl
  ·rw[Bool.eq_false_iff.2 (fun h=>h1 (blt.1 h)),if_neg h1]
   by_cases h2:i=t
   ·rw[beq.2 h2,if_pos h2];rfl
   ·rw[Bool.eq_false_iff.2 (fun h=>h2 (beq.1 h)),if_neg h2];rfl
 intro s
 induction s with
 |nil=>
  simp only[show ∀t w,insert t w []=[(t,w)]from fun _ _=>rfl,key]
  by_cases h1:a<b
  ·have h2:¬b<a:=by omega
   simp[h1,h2,hab]
  ·have h2:b<a:=by omega
   simp[h1,h2,Ne.symm hab]
 |cons p s ih=>
  obtain⟨i,x⟩:=p
  rw[key b u,key a v]
  by_cases b1:b<i<;>by_cases a1:a<i<;>simp only[b1,a1,if_true,if_false]
  ·rw[key a v,key b u]
   by_cases h1:a<b
   ·have h2:¬b<a:=by omega
    simp[h1,h2,hab,Ne.symm hab,key,b1]
   ·have h2:b<a:=by omega
    simp[h1,h2,hab,Ne.symm hab,key,a1]
  ·by_cases a2:i=a
   ·subst a2
    have h1:¬i<b:=by omega
    simp[key,b1,h1,Ne.symm hab,hab]
   ·have h1:¬a<b:=by omega
    simp[key,b1,a1,a2,h1,Ne.symm hab,hab]
  ·by_cases b2:i=b
   ·subst b2
    have h1:¬i<a:=by omega
    simp[key,a1,h1,Ne.symm hab,hab]
   ·have h1:¬b<a:=by omega
    simp[key,a1,b1,b2,h1,Ne.symm hab,hab]
  ·by_cases a2:i=a<;>by_cases b2:i=b<;>simp only[a2,b2,if_true,if_false]
   ·exact(hab (a2.symm.trans b2)).elim
   ·subst a2;simp[key,b1,b2,Ne.symm hab,hab]
   ·subst b2;simp[key,a1,a2,Ne.symm hab,hab]
   ·simp only[key,a1,b1,a2,b2,if_false];rw[ih]
theorem KY (p:Nat×V):∀(ws s:List (Nat×V)),(∀q∈ws,p.1≠q.1∨p=q)→insert p.1 p.2 (ins ws s)=ins ws (insert p.1 p.2 s)
 |[],_,_=>rfl
 |q::ws,s,h=>by
  have e:∀s,ins (q::ws) s=ins ws (insert q.1 q.2 s):=fun _=>rfl
  rw[e,e,KY p ws _ fun q hq=>h q (by simp[hq])]
  rcases h q (by simp)with h|h
  ·rw[P7 _ _ _ _ h]
  ·rw[h]
theorem P8:∀(us ws s:List (Nat×V)),(∀p∈us,∀q∈ws,p.1≠q.1∨p=q)→ins us (ins ws s)=ins ws (ins us s)
 |[],_,_,_=>rfl
 |p::us,ws,s,h=>by
  have e:∀s,ins (p::us) s=ins us (insert p.1 p.2 s):=fun _=>rfl
  rw[e,e,KY p ws s (h p (by simp)),P8 us ws _ fun p hp=>h p (by simp[hp])]
theorem D8 (d:Nat):∀(ws s:List (Nat×V)),(∀p∈ws,p.1=d→p.2=look d s)→look d (ins ws s)=look d s
 |[],_,_=>rfl
 |p::ws,s,h=>by
  have e:∀s,ins (p::ws) s=ins ws (insert p.1 p.2 s):=fun _=>rfl
  have h0:look d (insert p.1 p.2 s)=look d s:=by
   rw[Au]
   split
   ·rename_i hd;exact h p (by simp) hd.symm
   ·rfl
  rw[e,D8 d ws _ fun q hq hd=>by rw[h0];exact h q (by simp[hq]) hd,h0]
theorem EJ (x:Nat):∀a b:List Nat,AQ x (a++b)=(AQ x a||AQ x b)
 |[],_=>rfl
 |y::a,b=>by
  simp only[List.cons_append,AQ]
  cases Nat.beq y x
  ·exact EJ x a b
  ·rfl
theorem Nu {R:Type} {fn:FuncId} {rid:Nat} {os:Array Oper} {k:St→Option R}:∀(is:List Nat) (sk sk2:List Nat) (st:St),(∀x,AQ x sk=AQ x sk2)→
 DC P A O fn rid os sk is st k=DC P A O fn rid os sk2 is st k
 |[],_,_,_,_=>rfl
 |i::is,sk,sk2,st,h=>by
  have h1:∀x,AQ x (i::sk)=AQ x (i::sk2):=by intro x;simp only[AQ,h x]
  have e1:∀st,DC P A O fn rid os (i::sk) is st k=DC P A O fn rid os (i::sk2) is st k:=fun st=>Nu is _ _ st h1
  have e2:(fun st=>DC P A O fn rid os sk is st k)=fun st=>DC P A O fn rid os sk2 is st k:=funext fun st=>Nu is _ _ st h
  simp only[DC,e1,e2,h,Nu is _ _ _ h]
def TI (os:Array Oper) (o:Oper):Option Nat:=match o.guard with
 |some (j,_)=>(os[j]?).bind (·.dst)
 |none=>none
def P9 (o:Oper):Option Nat:=o.guard.map (·.1)
structure Same (P:Program) (A:Ann) (os:Array Oper) (fn:FuncId) (rid i:Nat) (o:Oper) (sk sk2:List Nat) (s s2:List (Nat×V)):Prop where
 ag:AG P A fn rid i o s s2
 hg:HG A fn rid i s s2
 gd:∀d,TI os o=some d→look d s=look d s2
 sk:∀j,P9 o=some j→AQ j sk=AQ j sk2
def QO (P:Program) (A:Ann) (O:Orc) (os:Array Oper) (fn:FuncId) (rid i:Nat) (o:Oper) (sk:List Nat) (s:List (Nat×V)) (nsk:List Nat) (ws:List (Nat×V)) (h h':List V):Prop:=
 ∀(R:Type) (k:St→Option R) (is sk2:List Nat) (s2:List (Nat×V)),Same P A os fn rid i o sk sk2 s s2→DC P A O fn rid os sk2 (i::is) ⟨s2,h⟩ k=DC P A O fn rid os (nsk++sk2) is ⟨ins ws s2,h'⟩ k
def Ib (E:List V→List V→Prop) (s:List (Nat×V)) (sl:Nat) (h h':List V):Prop:=
 ∃id p t y y',look sl s= .ref id p t∧h[id]?=some y∧h'=h.set id y'∧∀h2:List V,h2[id]?=some y→E h2 (h2.set id y')
def Qv (E:List V→List V→Prop) (s:List (Nat×V)) (sl:Nat) (h h':List V):Prop:=
 ∃id p t y,look sl s= .ref id p t∧h[id]?=some y∧h'[id]?=some y∧∀y2,E (h.set id y2) (h'.set id y2)
def CFE (E:List V→List V→Prop) (s:List (Nat×V)) (c:Cls) (h h':List V):Prop:=
 match c with
 | .n=>h'=h∧∀h2,E h2 h2
 | .ro=>h'=h
 | .ld home=>h'=h∧(∀z,E (h++[z]) (h++[z]))∧∀sl,home=some sl→Ib E s sl h h'
 | .tk sl=>Ib E s sl h h'
 | .tf sl k=>Ib E s sl h h'∧LocF E s sl k h h'
 | .hid sl=>Qv E s sl h h'
 | .kp l c=>(∀sl∈l,Yr s sl h h')∧(c=true→h'.length=h.length∧∀z,E (h++[z]) (h'++[z]))
 | .al=>∃z,h'=h++[z]∧∀h2,h2.length=h.length→E h2 (h2++[z])
 | .wr=>True
theorem CFE.mono {E E':List V→List V→Prop} (he:∀a b,E a b→E' a b) {s:List (Nat×V)} {c:Cls} {h h':List V} (hc:CFE E s c h h'):CFE E' s c h h':=by
 have l:∀{sl},Ib E s sl h h'→Ib E' s sl h h':=fun⟨id,p,t,y,y',a,b,c,d⟩=>⟨id,p,t,y,y',a,b,c,fun h2 hh=>he _ _ (d h2 hh)⟩
 cases c with
 |n=>exact⟨hc.1,fun h2=>he _ _ (hc.2 h2)⟩
 |ro=>exact hc
 |ld home=>exact⟨hc.1,fun z=>he _ _ (hc.2.1 z),fun sl hsl=>l (hc.2.2 sl hsl)⟩
 |tk sl=>exact l hc
 |tf sl k=>exact⟨l hc.1,hc.2.mono he⟩
 |hid sl=>obtain⟨id,p,t,y,a,b,c,d⟩:=hc;exact⟨id,p,t,y,a,b,c,fun y2=>he _ _ (d y2)⟩
 |kp l c=>exact⟨hc.1,fun e=>⟨(hc.2 e).1,fun z=>he _ _ ((hc.2 e).2 z)⟩⟩
 |al=>obtain⟨z,a,b⟩:=hc;exact⟨z,a,fun h2 e=>he _ _ (b h2 e)⟩
 |wr=>trivial
theorem CF.cfe {fn:FuncId} {rid i:Nat} {o:Oper} {c:Cls} {s ws:List (Nat×V)} {h h':List V} (hc:CF P A O fn rid i o c s h ws h'):CFE (fun a b=>TG P A O fn rid i o s a ws b) s c h h':=by
 cases c<;>exact hc
theorem H6 {R:Type} {fn:FuncId} {rid i:Nat} {os:Array Oper} {sk is:List Nat} {s:List (Nat×V)} {h:List V} {k:St→Option R} {r:R}
 (hop:DC P A O fn rid os sk (i::is) ⟨s,h⟩ k=some r):∃o nsk ws h',os[i]?=some o∧(nsk=[]∨nsk=[i])∧DC P A O fn rid os (nsk++sk) is ⟨ins ws s,h'⟩ k=some r∧
  (∀p∈ws,p.1∈o.dst.toList∨(p.1∈Qu A fn rid i o∧p.2=(look p.1 s).weak)∨(TI os o=some p.1∧p.2=look p.1 s))∧QO P A O os fn rid i o sk s nsk ws h h'∧
  (CFE (QO P A O os fn rid i o sk s nsk ws) s (MS P A fn rid i o) h h'∨CFE (QO P A O os fn rid i o sk s nsk ws) s .n h h'):=by
 have hop0:=hop
 simp only[DC]at hop
 split at hop
 ·cases hop
 ·rename_i o ho
  have run:∀{us:List (Nat×V)} {sk':List Nat},(∀p∈us,TI os o=some p.1∧p.2=look p.1 s)→
   (op P A O fn rid i o ⟨ins us s,h⟩ fun st=>DC P A O fn rid os sk' is st k)=some r→sk'=sk→
   (∀(R:Type) (k:St→Option R) (is sk2:List Nat) (s2:List (Nat×V)) (h2:List V),Same P A os fn rid i o sk sk2 s s2→DC P A O fn rid os sk2 (i::is) ⟨s2,h2⟩ k=op P A O fn rid i o ⟨ins us s2,h2⟩ fun st=>DC P A O fn rid os sk2 is st k)→
   ∃o nsk ws h',os[i]?=some o∧(nsk=[]∨nsk=[i])∧DC P A O fn rid os (nsk++sk) is ⟨ins ws s,h'⟩ k=some r∧
    (∀p∈ws,p.1∈o.dst.toList∨(p.1∈Qu A fn rid i o∧p.2=(look p.1 s).weak)∨(TI os o=some p.1∧p.2=look p.1 s))∧QO P A O os fn rid i o sk s nsk ws h h'∧
    (CFE (QO P A O os fn rid i o sk s nsk ws) s (MS P A fn rid i o) h h'∨CFE (QO P A O os fn rid i o sk s nsk ws) s .n h h'):=by
   intro us sk' hus hrun hsk hall
   subst hsk
   obtain⟨ws,h',hk,hw,he,hc⟩:=Yu hrun
   have lus:∀d,look d (ins us s)=look d s:=fun d=>D8 d us s fun p hp hd=>by rw[(hus p hp).2,hd]
   have lus2:∀{s2:List (Nat×V)},(∀d,TI os o=some d→look d s=look d s2)→∀d,look d (ins us s2)=look d s2:=fun hgd d=>D8 d us _ fun p hp hd=>by
    obtain⟨h1,h2⟩:=hus p hp
    rw[h2,hgd _ h1,hd]
   have evl:∀{s2:List (Nat×V)} {h2:List V} {s3:List (Nat×V)} {h3:List V} {t:TypeId} {x:Operand},(∀d,look d s2=look d s3)→(⟨s2,h2⟩:St).ev P A t x=(⟨s3,h3⟩:St).ev P A t x:=by
    intro s2 h2 s3 h3 t x hl
    cases x with
    |tmp d=>exact hl d
    |_=>rfl
   have lift:∀a b,TG P A O fn rid i o (ins us s) a ws b→QO P A O os fn rid i o sk' s [] (us++ws) a b:=by
    intro a b hE R k is sk2 s2 hs
    rw[hall R k is sk2 s2 a hs,hE R _ (ins us s2) ⟨fun hwk x hx t h1 h2=> ?_,fun hwk x hx t h1 h2=> ?_⟩ ⟨fun d hd=> ?_,fun d hd=> ?_⟩,BZ]
    ·rfl
    ·rw[evl (s2:=ins us s) (s3:=s) (h3:=h1) lus,evl (s2:=ins us s2) (s3:=s2) (h3:=h2) (lus2 hs.gd)]
     exact hs.ag.1 hwk x hx t h1 h2
    ·rw[evl (s2:=ins us s) (s3:=s) (h3:=h1) lus,evl (s2:=ins us s2) (s3:=s2) (h3:=h2) (lus2 hs.gd)]
     exact hs.ag.2 hwk x hx t h1 h2
    ·rw[lus,lus2 hs.gd];exact hs.hg.1 d hd
    ·rw[lus,lus2 hs.gd];exact hs.hg.2 d hd
   have cfeq:CFE (QO P A O os fn rid i o sk' s [] (us++ws)) s (MS P A fn rid i o) h h':=by
    have:=(CF.cfe hc).mono lift
    have ll:∀{sl},Ib (QO P A O os fn rid i o sk' s [] (us++ws)) (ins us s) sl h h'→Ib (QO P A O os fn rid i o sk' s [] (us++ws)) s sl h h':=fun⟨id,p,t,y,y',a,b,c,d⟩=>⟨id,p,t,y,y',by rw[←lus];exact a,b,c,d⟩
    revert this
    cases MS P A fn rid i o with
    |n=>exact id
    |ro=>exact id
    |ld home=>exact fun hh=>⟨hh.1,hh.2.1,fun sl hsl=>ll (hh.2.2 sl hsl)⟩
    |tk sl=>exact ll
    |tf sl k=>exact fun hh=>⟨ll hh.1,by obtain⟨id,p,t,x,a,b,c,d⟩:=hh.2;exact⟨id,p,t,x,by rw[←lus];exact a,b,c,d⟩⟩
    |hid sl=>exact fun⟨id,p,t,y,a,b,c,d⟩=>⟨id,p,t,y,by rw[←lus];exact a,b,c,d⟩
    |kp l c=>exact fun hh=>⟨fun sl hsl=>by obtain⟨id,p,t,y,a,b⟩:=hh.1 sl hsl;exact⟨id,p,t,y,by rw[←lus];exact a,b⟩,hh.2⟩
    |al=>exact id
    |wr=>exact id
   refine⟨o,[],us++ws,h',ho,.inl rfl,by rw[BZ];exact hk,fun p hp=> ?_,lift _ _ he,.inl cfeq⟩
   rw[List.mem_append]at hp
   rcases hp with hp|hp
   ·exact .inr (.inr (hus p hp))
   ·rcases hw p hp with hp|⟨hp,hp2⟩
    ·exact .inl hp
    ·exact .inr (.inl ⟨hp,by rw[hp2,lus]⟩)
  have pass:∀{us:List (Nat×V)},(∀p∈us,TI os o=some p.1∧p.2=look p.1 s)→
   DC P A O fn rid os (i::sk) is (St.put ⟨ins us s,h⟩ o.dst (.tup [])) k=some r→
   (∀(R:Type) (k:St→Option R) (is sk2:List Nat) (s2:List (Nat×V)) (h2:List V),Same P A os fn rid i o sk sk2 s s2→DC P A O fn rid os sk2 (i::is) ⟨s2,h2⟩ k=DC P A O fn rid os (i::sk2) is (St.put ⟨ins us s2,h2⟩ o.dst (.tup [])) k)→
   ∃o nsk ws h',os[i]?=some o∧(nsk=[]∨nsk=[i])∧DC P A O fn rid os (nsk++sk) is ⟨ins ws s,h'⟩ k=some r∧
    (∀p∈ws,p.1∈o.dst.toList∨(p.1∈Qu A fn rid i o∧p.2=(look p.1 s).weak)∨(TI os o=some p.1∧p.2=look p.1 s))∧QO P A O os fn rid i o sk s nsk ws h h'∧
    (CFE (QO P A O os fn rid i o sk s nsk ws) s (MS P A fn rid i o) h h'∨CFE (QO P A O os fn rid i o sk s nsk ws) s .n h h'):=by
   intro us hus hrun hall
   rw[Ac,←BZ]at hrun
   have hE:∀h2,QO P A O os fn rid i o sk s [i] (us++Gu o.dst (.tup [])) h2 h2:=by
    intro h2 R k is sk2 s2 hs
    rw[hall R k is sk2 s2 h2 hs,Ac,←BZ];rfl
   refine⟨o,[i],us++Gu o.dst (.tup []),h,ho,.inr rfl,hrun,fun p hp=> ?_,hE h,.inr ⟨rfl,hE⟩⟩
   rw[List.mem_append]at hp
   rcases hp with hp|hp
   ·exact .inr (.inr (hus p hp))
   ·exact .inl (D6 hp)
  split at hop
  ·rename_i hg
   refine run (us:=[]) (by simp) hop rfl fun R k is sk2 s2 h2 hs=> ?_
   simp only[DC,ho,hg];rfl
  ·rename_i j want hg
   split at hop
   ·cases hop
   ·rename_i d hd
    have hgrd:TI os o=some d:=by simp only[TI,hg];exact hd
    have hgi:P9 o=some j:=by simp[P9,hg]
    split at hop
    ·rename_i hsk
     split at hop
     ·rename_i hst
      refine pass (us:=[]) (by simp) hop fun R k is sk2 s2 h2 hs=> ?_
      have e1:AQ j sk2=true:=by rw[←hs.sk j hgi];exact hsk
      have e2:(⟨s2,h2⟩:St).get d= .tup []:=by
       have:=hs.gd d hgrd
       simp only[St.get]at hst⊢
       rw[←this];exact hst
      simp only[DC,ho,hg,hd,e1,e2,if_true];rfl
     ·cases hop
    ·rename_i hsk
     have key:∀b:Bool,(⟨s,h⟩:St).get d= .bool b→(∀p∈[(d,V.bool b)],TI os o=some p.1∧p.2=look p.1 s)∧
      ∀(R:Type) (k:St→Option R) (is sk2:List Nat) (s2:List (Nat×V)) (h2:List V),Same P A os fn rid i o sk sk2 s s2→DC P A O fn rid os sk2 (i::is) ⟨s2,h2⟩ k=
       if want=b then op P A O fn rid i o ⟨ins [(d,V.bool b)] s2,h2⟩ fun st=>DC P A O fn rid os sk2 is st k else DC P A O fn rid os (i::sk2) is (St.put ⟨ins [(d,V.bool b)] s2,h2⟩ o.dst (.tup [])) k:=by
      intro b hb
      refine⟨fun p hp=> ?_,fun R k is sk2 s2 h2 hs=> ?_⟩
      ·simp only[List.mem_singleton]at hp
       subst hp
       exact⟨hgrd,hb.symm⟩
      ·have e1:AQ j sk2=false:=by rw[←hs.sk j hgi];simpa using hsk
       have e2:(⟨s2,h2⟩:St).get d= .bool b:=by
        have:=hs.gd d hgrd
        simp only[St.get]at hb⊢
        rw[←this];exact hb
       simp only[DC,ho,hg,hd,e1,e2,Bool.false_eq_true,if_false]
       cases b<;>cases want<;>rfl
     rcases EY hop with⟨hb,hop⟩|⟨hb,hop⟩
     ·obtain⟨k1,k2⟩:=key true hb
      split at hop
      ·rename_i hw
       exact run (us:=[(d,V.bool true)]) k1 hop rfl fun R k is sk2 s2 h2 hs=>by rw[k2 R k is sk2 s2 h2 hs,if_pos hw]
      ·rename_i hw
       exact pass (us:=[(d,V.bool true)]) k1 hop fun R k is sk2 s2 h2 hs=>by rw[k2 R k is sk2 s2 h2 hs,if_neg hw]
     ·obtain⟨k1,k2⟩:=key false hb
      split at hop
      ·rename_i hw
       exact pass (us:=[(d,V.bool false)]) k1 hop fun R k is sk2 s2 h2 hs=>by rw[k2 R k is sk2 s2 h2 hs,if_neg (by rw[hw];simp)]
      ·rename_i hw
       exact run (us:=[(d,V.bool false)]) k1 hop rfl fun R k is sk2 s2 h2 hs=>by rw[k2 R k is sk2 s2 h2 hs,if_pos (by simpa using hw)]
end
end AM
end
section
namespace AM
open Go
def KZ (a b:List Nat):Bool:=a.all fun x=> !AQ x b
theorem D9 {x:Nat}:∀{l:List Nat},AQ x l=true↔x∈l
 |[]=>by simp[AQ]
 |y::l=>by
  simp only[AQ,List.mem_cons]
  cases h:Nat.beq y x
  ·have hne:y≠x:=Nat.ne_of_beq_eq_false h
   simp only[cond_false]
   rw[D9 (l:=l)]
   constructor
   ·exact .inr
   ·rintro (rfl|h)
    ·exact(hne rfl).elim
    ·exact h
  ·have:=Nat.eq_of_beq_eq_true h
   subst this
   simp
theorem BK {a b:List Nat} (h:KZ a b=true) {x:Nat} (ha:x∈a):x∉b:=by
 simp only[KZ,List.all_eq_true]at h
 have:=h x ha
 intro hb
 rw[D9.2 hb]at this;cases this
section
variable {P:Program} {A:Ann} {O:Orc}
def H7 (o:Oper):List Nat:=o.op.operands.toList.flatMap KW
def QA (P:Program) (A:Ann) (os:Array Oper) (fn:FuncId) (rid i:Nat) (o:Oper):List Nat:=(if XE P A fn rid i o then[]else H7 o)++((A.home fn rid i).toList++A.av fn rid i)++(TI os o).toList
def rdw (P:Program) (A:Ann) (fn:FuncId) (rid i:Nat) (o:Oper):List Nat:=if XE P A fn rid i o then H7 o else[]
def Ko (a b:Nat) (l:List (Nat×Nat)):Bool:=l.any fun p=>(Nat.beq p.1 a&&Nat.beq p.2 b)||(Nat.beq p.1 b&&Nat.beq p.2 a)
def QB (l:List (Nat×Nat)):List Nat:=l.map (·.1)++l.map (·.2)
def EN (ap:List (Nat×Nat)):Cls→Cls→Bool
 | .n,_=>true
 |_,.n=>true
 | .ro,.ro=>true
 | .ro,.ld _=>true
 | .ld _,.ro=>true
 | .ld _,.ld _=>true
 | .ld (some a),.hid b=>Nat.beq a b
 | .hid b,.ld (some a)=>Nat.beq a b
 | .ld (some a),.kp l _=>AQ a l
 | .kp l _,.ld (some a)=>AQ a l
 | .kp _ true,.al=>true
 | .tk a,.hid b=>Nat.beq a b
 | .hid b,.tk a=>Nat.beq a b
 | .tk a,.ld (some b)=>Ko a b ap
 | .ld (some b),.tk a=>Ko a b ap
 | .tk a,.tk b=>Ko a b ap
 | .ld _,.al=>true
 |_,_=>false
def Cls.dn:Cls→Cls
 | .tf s _=> .tk s
 |c=>c
def XI (ap:List (Nat×Nat)) (c d:Cls):Bool:=EN ap c.dn d.dn||(match c,d with
 | .tf a j,.tf b k=>Nat.beq a b&& !Nat.beq j k
 |_,_=>false)
theorem CFE.dn {E:List V→List V→Prop} {s:List (Nat×V)} {c:Cls} {h h':List V} (hc:CFE E s c h h'):CFE E s c.dn h h':=by
 cases c<;>first|exact hc|exact hc.1
def Ic (P:Program) (A:Ann) (os:Array Oper) (fn:FuncId) (rid j i:Nat):Bool:=
 match os[j]?,os[i]? with
 |some oj,some oi=>(KZ (U0 A fn rid j oj) (QA P A os fn rid i oi)&&KZ oj.dst.toList (rdw P A fn rid i oi))&&(KZ (U0 A fn rid i oi) (QA P A os fn rid j oj)&&KZ oi.dst.toList (rdw P A fn rid j oj))&&KZ (U0 A fn rid j oj) (U0 A fn rid i oi)&&
  (match P9 oi with|some x=> !Nat.beq x j|none=>true)&&(match P9 oj with|some x=> !Nat.beq x i|none=>true)&&XI (A.apart fn rid) (MS P A fn rid j oj) (MS P A fn rid i oi)
 |_,_=>false
theorem apart_spec {st:St} {l:List (Nat×Nat)} (h:apartB st l=true) {a b:Nat} (hab:Ko a b l=true) {id id':Nat} {p p':List Nat} {t t':TypeId} (ha:look a st.s= .ref id p t) (hb:look b st.s= .ref id' p' t'):id≠id':=by
 induction l with
 |nil=>simp[Ko]at hab
 |cons x l ih=>
  obtain⟨u,v⟩:=x
  simp only[apartB,Bool.and_eq_true]at h
  simp only[Ko,List.any_cons,Bool.or_eq_true,Bool.and_eq_true]at hab
  rcases hab with(⟨h1,h2⟩|⟨h1,h2⟩)|hab
  ·have e1:=Nat.eq_of_beq_eq_true h1;have e2:=Nat.eq_of_beq_eq_true h2
   subst e1 e2
   have:=h.1
   simp only[U6,St.get,ha,hb,Bool.not_eq_true']at this
   exact Nat.ne_of_beq_eq_false this
  ·have e1:=Nat.eq_of_beq_eq_true h1;have e2:=Nat.eq_of_beq_eq_true h2
   subst e1 e2
   have:=h.1
   simp only[U6,St.get,ha,hb,Bool.not_eq_true']at this
   exact fun hh=>Nat.ne_of_beq_eq_false this hh.symm
  ·exact ih h.2 (by simpa [Ko]using hab)
theorem Kq {s s2:List (Nat×V)} {h h2:List V} {l:List (Nat×Nat)} (hl:∀d,d∈QB l→look d s2=look d s) (ha:apartB ⟨s,h⟩ l=true):apartB ⟨s2,h2⟩ l=true:=by
 induction l with
 |nil=>rfl
 |cons x l ih=>
  obtain⟨u,v⟩:=x
  simp only[apartB,Bool.and_eq_true]at ha⊢
  refine⟨?_,ih (fun d hd=>hl d ?_) ha.2⟩
  ·simp only[St.get]
   rw[hl u (by simp[QB]),hl v (by simp[QB])]
   exact ha.1
  ·simp only[QB,List.mem_append,List.map_cons,List.mem_cons]at hd⊢
   rcases hd with hd|hd
   ·exact .inl (.inr hd)
   ·exact .inr (.inr hd)
theorem Qw {Ej Ei:List V→List V→Prop} {s:List (Nat×V)} {cj ci:Cls} {h h1 h2:List V} {ap:List (Nat×Nat)} (hap:apartB ⟨s,h⟩ ap=true) (hej:Ej h h1) (hei:Ei h1 h2)
 (hj:CFE Ej s cj h h1∨CFE Ej s .n h h1) (hi:CFE Ei s ci h1 h2∨CFE Ei s .n h1 h2) (hc:EN ap cj ci=true):∃h1',Ei h h1'∧Ej h1' h2:=by
 have nj:CFE Ej s .n h h1→∃h1',Ei h h1'∧Ej h1' h2:=by rintro ⟨rfl,hh⟩;exact⟨h2,hei,hh h2⟩
 have ni:CFE Ei s .n h1 h2→∃h1',Ei h h1'∧Ej h1' h2:=by rintro ⟨rfl,hh⟩;exact⟨h,hh h,hej⟩
 have ro:h1=h→h2=h1→∃h1',Ei h h1'∧Ej h1' h2:=by rintro rfl rfl;exact⟨_,hei,hej⟩
 have la:∀{a b:Nat},a=b→Ib Ej s a h h1→Qv Ei s b h1 h2→∃h1',Ei h h1'∧Ej h1' h2:=by
  rintro a _ rfl ⟨id,p,t,y,y',k1,k2,rfl,k4⟩ ⟨id',p',t',z,l1,l2,l3,l4⟩
  rw[k1]at l1;cases l1
  have hlt:=Af k2
  rw[set_self hlt]at l2;cases l2
  have e1:=l4 y
  rw[List.set_set,BB k2]at e1
  refine⟨_,e1,?_⟩
  have:=k4 (h2.set id y) (set_self (Af l3))
  rw[List.set_set,BB l3]at this
  exact this
 have al:∀{a b:Nat},a=b→Qv Ej s a h h1→Ib Ei s b h1 h2→∃h1',Ei h h1'∧Ej h1' h2:=by
  rintro a _ rfl ⟨id,p,t,y,k1,k2,k3,k4⟩ ⟨id',p',t',z,y',l1,l2,rfl,l4⟩
  rw[k1]at l1;cases l1
  rw[k3]at l2;cases l2
  exact⟨_,l4 h k2,k4 y'⟩
 have lk:∀{a b:Nat},a=b→h1=h→Ib Ej s a h h1→Yr s b h1 h2→∃h1',Ei h h1'∧Ej h1' h2:=by
  rintro a _ rfl e ⟨id,p,t,y,y',k1,k2,k3,k4⟩ ⟨id',p',t',z,l1,l2,l3⟩
  rw[k1]at l1;cases l1
  have hlt:=Af k2
  have hyz:z=y':=by
   rw[k3,set_self hlt]at l2;exact(Option.some.inj l2).symm
  have hyy:z=y:=by
   rw[e,k2]at l2;exact(Option.some.inj l2).symm
  subst hyy
  subst hyz
  refine⟨h2,by rw[←e];exact hei,?_⟩
  have:=k4 h2 l3
  rw[BB l3]at this
  exact this
 have kl:∀{a b:Nat},a=b→h2=h1→Yr s a h h1→Ib Ei s b h1 h2→∃h1',Ei h h1'∧Ej h1' h2:=by
  rintro a _ rfl e ⟨id,p,t,y,k1,k2,k3⟩ ⟨id',p',t',z,y',l1,l2,l3,l4⟩
  rw[k1]at l1;cases l1
  rw[k3]at l2;cases l2
  have hlt:=Af k3
  have hyy:y'=y:=by
   have:(h1.set id y')[id]?=some y:=by rw[←l3,e];exact k3
   rw[set_self hlt]at this;exact Option.some.inj this
  subst hyy
  have:=l4 h k2
  rw[BB k2]at this
  exact⟨h,this,by rw[e];exact hej⟩
 have ll:∀{a b:Nat},Ko a b ap=true→Ib Ej s a h h1→Ib Ei s b h1 h2→∃h1',Ei h h1'∧Ej h1' h2:=by
  rintro a b hab ⟨id,p,t,y,y',k1,k2,rfl,k4⟩ ⟨id',p',t',z,z',l1,l2,rfl,l4⟩
  have hne:=apart_spec hap hab k1 l1
  rw[BO (Ne.symm hne)]at l2
  refine⟨_,l4 h l2,?_⟩
  have:=k4 (h.set id' z') (by rw[BO hne];exact k2)
  rw[List.set_comm _ _ (Ne.symm hne)]at this
  exact this
 have ap':∀{a b:Nat},Ko a b ap=true→Ko b a ap=true:=by
  intro a b hab
  simp only[Ko,List.any_eq_true]at hab⊢
  obtain⟨p,hp,h⟩:=hab
  exact⟨p,hp,by rw[Bool.or_comm];exact h⟩
 rcases hj with hj|hj
 ·rcases hi with hi|hi
  ·cases cj<;>cases ci<;>first
    |exact nj hj
    |exact ni hi
    |(simp[EN]at hc;done)
    |skip
   case ro.ro=>exact ro hj hi
   case ro.ld=>exact ro hj hi.1
   case ld.ro=>exact ro hj.1 hi
   case ld.ld=>exact ro hj.1 hi.1
   case ld.al sl=>
    obtain⟨rfl,h2',_⟩:=hj
    obtain⟨z,rfl,_⟩:=hi
    exact⟨_,hei,h2' z⟩
   case kp.al l c=>
    cases c with
    |false=>simp[EN]at hc
    |true=>
     obtain⟨e1,e2⟩:=hj.2 rfl
     obtain⟨z,rfl,e3⟩:=hi
     exact⟨h++[z],e3 h e1.symm,e2 z⟩
   case ld.hid sl b=>
    cases sl with
    |none=>simp[EN]at hc
    |some a=>exact la (Nat.eq_of_beq_eq_true hc) (hj.2.2 a rfl) hi
   case hid.ld b sl=>
    cases sl with
    |none=>simp[EN]at hc
    |some a=>exact al (Nat.eq_of_beq_eq_true hc).symm hj (hi.2.2 a rfl)
   case ld.kp sl b c=>
    cases sl with
    |none=>simp[EN]at hc
    |some a=>exact lk rfl hj.1 (hj.2.2 a rfl) (hi.1 a (D9.1 hc))
   case kp.ld b c sl=>
    cases sl with
    |none=>simp[EN]at hc
    |some a=>exact kl rfl hi.1 (hj.1 a (D9.1 hc)) (hi.2.2 a rfl)
   case tk.hid a b=>exact la (Nat.eq_of_beq_eq_true hc) hj hi
   case hid.tk b a=>exact al (Nat.eq_of_beq_eq_true hc).symm hj hi
   case tk.ld a sl=>
    cases sl with
    |none=>simp[EN]at hc
    |some b=>exact ll hc hj (hi.2.2 b rfl)
   case ld.tk sl a=>
    cases sl with
    |none=>simp[EN]at hc
    |some b=>exact ll (ap' hc) (hj.2.2 b rfl) hi
   case tk.tk a b=>exact ll hc hj hi
  ·exact ni hi
 ·exact nj hj
theorem MX {j k:Nat} (hjk:j≠k) {x:V}:∀(p:List Nat) (v v':V),V.upd (p++[j]) v x=some v'→V.at (p++[k]) v'=V.at (p++[k]) v∧
 ∀z v2,V.upd (p++[k]) v' z=some v2→∃v1,V.upd (p++[k]) v z=some v1∧V.upd (p++[j]) v1 x=some v2
 |[],v,v',h=>by
  have key:∀(mk:List V→V) (fs:List V),(∀i l y,V.upd (i::l) (mk fs) y=(fs[i]?).bind fun w=>(V.upd l w y).map fun z=>mk (fs.set i z))→(∀gs i l y,V.upd (i::l) (mk gs) y=(gs[i]?).bind fun w=>(V.upd l w y).map fun z=>mk (gs.set i z))→(∀gs i l,V.at (i::l) (mk gs)=(gs[i]?).bind fun y=>V.at l y)→
   V.upd [j] (mk fs) x=some v'→V.at [k] v'=V.at [k] (mk fs)∧∀z v2,V.upd [k] v' z=some v2→∃v1,V.upd [k] (mk fs) z=some v1∧V.upd [j] v1 x=some v2:=by
   intro mk fs u1 u2 ua h
   rw[u1]at h
   obtain⟨w,hw,h⟩:=Option.bind_eq_some_iff.1 h
   simp only[V.upd,Option.map_some,Option.some.injEq]at h
   subst h
   refine⟨by rw[ua,ua,List.getElem?_set_ne hjk],fun z v2 h2=> ?_⟩
   rw[u2]at h2
   obtain⟨y,hy,h2⟩:=Option.bind_eq_some_iff.1 h2
   simp only[V.upd,Option.map_some,Option.some.injEq]at h2
   subst h2
   rw[List.getElem?_set_ne hjk]at hy
   refine⟨mk (fs.set k z),by rw[u1,hy];rfl,?_⟩
   rw[u2,List.getElem?_set_ne (Ne.symm hjk),hw]
   simp only[Option.bind_some,V.upd,Option.map_some]
   rw[List.set_comm _ _ hjk]
  cases v with
  |agg t fs=>exact key (V.agg t) fs (fun _ _ _=>rfl) (fun _ _ _ _=>rfl) (fun _ _ _=>rfl) h
  |row t fs=>exact key (V.row t) fs (fun _ _ _=>rfl) (fun _ _ _ _=>rfl) (fun _ _ _=>rfl) h
  |_=>cases h
 |i::p,v,v',h=>by
  have key:∀(mk:List V→V) (fs:List V),(∀gs i l y,V.upd (i::l) (mk gs) y=(gs[i]?).bind fun w=>(V.upd l w y).map fun z=>mk (gs.set i z))→(∀gs i l,V.at (i::l) (mk gs)=(gs[i]?).bind fun y=>V.at l y)→
   V.upd (i::(p++[j])) (mk fs) x=some v'→V.at (i::(p++[k])) v'=V.at (i::(p++[k])) (mk fs)∧∀z v2,V.upd (i::(p++[k])) v' z=some v2→∃v1,V.upd (i::(p++[k])) (mk fs) z=some v1∧V.upd (i::(p++[j])) v1 x=some v2:=by
   intro mk fs u2 ua h
   rw[u2]at h
   obtain⟨w,hw,h⟩:=Option.bind_eq_some_iff.1 h
   obtain⟨w',hw',rfl⟩:=Option.map_eq_some_iff.1 h
   have hi:=(List.getElem?_eq_some_iff.1 hw).1
   obtain⟨a1,a2⟩:=MX hjk p w w' hw'
   refine⟨by rw[ua,ua,List.getElem?_set_self hi,hw];exact a1,fun z v2 h2=> ?_⟩
   rw[u2,List.getElem?_set_self hi]at h2
   obtain⟨w2,hw2,rfl⟩:=Option.map_eq_some_iff.1 h2
   obtain⟨w1,b1,b2⟩:=a2 z w2 hw2
   refine⟨mk (fs.set i w1),by rw[u2,hw];simp only[Option.bind_some,b1,Option.map_some],?_⟩
   rw[u2,List.getElem?_set_self hi]
   simp only[Option.bind_some,b2,Option.map_some,List.set_set]
  cases v with
  |agg t fs=>exact key (V.agg t) fs (fun _ _ _ _=>rfl) (fun _ _ _=>rfl) h
  |row t fs=>exact key (V.row t) fs (fun _ _ _ _=>rfl) (fun _ _ _=>rfl) h
  |_=>cases h
theorem QC {h h1:List V} {id:Nat} {p:List Nat} {j k:Nat} {x:V} (hjk:j≠k) (hw:wr h id (p++[j]) x=some h1):rd h1 id (p++[k])=rd h id (p++[k])∧
 ∀z h2,wr h1 id (p++[k]) z=some h2→∃h1',wr h id (p++[k]) z=some h1'∧wr h1' id (p++[j]) x=some h2:=by
 unfold wr at hw
 obtain⟨y,hy,hw⟩:=Option.bind_eq_some_iff.1 hw
 obtain⟨y',hy',rfl⟩:=Option.map_eq_some_iff.1 hw
 have hlt:=Af hy
 obtain⟨a1,a2⟩:=MX hjk p y y' hy'
 refine⟨by simp only[rd,hy,set_self hlt,Option.bind_some];exact a1,fun z h2 hh=> ?_⟩
 unfold wr at hh
 rw[set_self hlt]at hh
 obtain⟨y2,hy2,rfl⟩:=Option.map_eq_some_iff.1 hh
 obtain⟨y1,b1,b2⟩:=a2 z y2 hy2
 refine⟨h.set id y1,by simp only[wr,hy,Option.bind_some,b1,Option.map_some],?_⟩
 simp only[wr,set_self hlt,Option.bind_some,b2,Option.map_some,List.set_set]
theorem Ud {Ej Ei:List V→List V→Prop} {s:List (Nat×V)} {cj ci:Cls} {h h1 h2:List V} {ap:List (Nat×Nat)} (hap:apartB ⟨s,h⟩ ap=true) (hej:Ej h h1) (hei:Ei h1 h2)
 (hj:CFE Ej s cj h h1∨CFE Ej s .n h h1) (hi:CFE Ei s ci h1 h2∨CFE Ei s .n h1 h2) (hc:XI ap cj ci=true):∃h1',Ei h h1'∧Ej h1' h2:=by
 unfold XI at hc
 rw[Bool.or_eq_true]at hc
 rcases hc with hc|hc
 ·exact Qw hap hej hei (hj.imp CFE.dn id) (hi.imp CFE.dn id) hc
 ·rcases hj with hj|hj
  rotate_left
  ·obtain⟨rfl,hh⟩:=hj;exact⟨h2,hei,hh h2⟩
  rcases hi with hi|hi
  rotate_left
  ·obtain⟨rfl,hh⟩:=hi;exact⟨h,hh h,hej⟩
  cases cj<;>try (cases hc;done)
  cases ci<;>try (cases hc;done)
  rename_i a j b k
  simp only[Bool.and_eq_true,Bool.not_eq_true']at hc
  obtain rfl:=Nat.eq_of_beq_eq_true hc.1
  have hjk:j≠k:=Nat.ne_of_beq_eq_false hc.2
  obtain⟨id,p,t,x,l1,r1,w1,e1⟩:=hj.2
  obtain⟨id',p',t',z,l2,r2,w2,e2⟩:=hi.2
  rw[l1]at l2;cases l2
  obtain⟨a1,a2⟩:=QC hjk w1
  rw[a1]at r2
  obtain⟨h1',b1,b2⟩:=a2 _ _ w2
  refine⟨h1',e2 h h1' r2 b1,e1 h1' h2 ?_ b2⟩
  rw[(QC (Ne.symm hjk) b1).1];exact r1
theorem TJ {os:Array Oper} {fn:FuncId} {rid i:Nat} {o:Oper} {sk sk2:List Nat} {s s2:List (Nat×V)} (hl:∀d,d∈QA P A os fn rid i o→look d s=look d s2) (hlw:∀d,d∈rdw P A fn rid i o→(look d s).weak=(look d s2).weak)
 (hs:∀j,P9 o=some j→AQ j sk=AQ j sk2):Same P A os fn rid i o sk sk2 s s2:=by
 refine⟨⟨fun hw x hx t h h2=> ?_,fun hw x hx t h h2=> ?_⟩,?_,fun d hd=>hl d ?_,hs⟩
 ·cases x with
  |tmp d=>
   refine hl d ?_
   simp only[QA,hw,H7,List.mem_append,List.mem_flatMap,Bool.false_eq_true,if_false]
   exact .inl (.inl ⟨_,Array.mem_toList_iff.2 hx,by simp[KW]⟩)
  |_=>rfl
 ·cases x with
  |tmp d=>
   refine hlw d ?_
   simp only[rdw,hw,H7,List.mem_flatMap,if_true]
   exact⟨_,Array.mem_toList_iff.2 hx,by simp[KW]⟩
  |_=>rfl
 ·exact⟨fun d hd=>hl d (by simp[QA,hd]),fun d hd=>hl d (by simp[QA,hd])⟩
 ·simp[QA,hd]
theorem Yv {os:Array Oper} {fn:FuncId} {rid i:Nat} {o:Oper} {x:Nat} (h:x∈Qu A fn rid i o):x∈QA P A os fn rid i o:=by
 have key:∀{y:Operand},y∈o.op.operands→x∈KW y→XE P A fn rid i o=false→x∈QA P A os fn rid i o:=by
  intro y hy hx hw
  simp only[QA,hw,H7,List.mem_append,List.mem_flatMap,Bool.false_eq_true,if_false]
  exact .inl (.inl ⟨y,Array.mem_toList_iff.2 hy,hx⟩)
 obtain⟨dst,op,type,pos,after,guard⟩:=o
 unfold Qu at h
 simp only at h
 split at h
 ·split at h
  ·rename_i ht;exact key (by simp[Op.operands]) h (by simp[XE,ht])
  ·simp at h
 ·split at h
  ·rename_i ht;exact key (by simp[Op.operands]) h (by simp[XE,ht])
  ·simp at h
 ·exact key (by simp[Op.operands]) h rfl
 ·split at h
  ·rename_i ar ts _ y ys hl
   have:y∈ar:=by rw[←Array.mem_toList_iff,hl];simp
   exact key (by simp[Op.operands,Call.operands,this]) h rfl
  ·simp at h
 ·simp at h
mutual
theorem Ie:∀v:V,v.weak.weak=v.weak
 | .agg t fs=>by simp only[V.weak];rw[Gw fs]
 | .row t fs=>by simp only[V.weak];rw[Gw fs]
 | .lst e f xs=>by cases f<;>rfl
 | .bool _=>rfl
 | .int _ _=>rfl
 | .str _=>rfl
 | .win _ _ _ _ _=>rfl
 | .ref _ _ _=>rfl
 | .rop _ _=>rfl
 | .nilp=>rfl
 | .clo _ _=>rfl
 | .nilf=>rfl
 | .nili=>rfl
 | .ifv=>rfl
 | .tup _=>rfl
 | .undef=>rfl
theorem Gw:∀vs:List V,DV (DV vs)=DV vs
 |[]=>rfl
 |v::vs=>by simp only[DV];rw[Ie v,Gw vs]
end
theorem EO (d:Nat):∀(ws s:List (Nat×V)),(∀p∈ws,p.1=d→p.2.weak=(look d s).weak)→(look d (ins ws s)).weak=(look d s).weak
 |[],_,_=>rfl
 |p::ws,s,h=>by
  have e:∀s,ins (p::ws) s=ins ws (insert p.1 p.2 s):=fun _=>rfl
  have h0:(look d (insert p.1 p.2 s)).weak=(look d s).weak:=by
   rw[Au]
   split
   ·rename_i hd;exact h p (by simp) hd.symm
   ·rfl
  rw[e,EO d ws _ fun q hq hd=>by rw[h0];exact h q (by simp[hq]) hd,h0]
theorem Yw {fn:FuncId} {rid i:Nat} {o:Oper} {c:Cls} (h:MS P A fn rid i o=c) (hc:c≠ .n):cls0 P A fn rid i o=c:=by
 unfold MS at h
 cases hl:AQ i (A.low fn rid)with
 |false=>rw[hl]at h;exact h
 |true=>
  rw[hl]at h
  simp only[cond_true]at h
  split at h
  ·exact(hc h.symm).elim
  ·exact(hc h.symm).elim
  ·exact h
theorem swap {R:Type} {fn:FuncId} {rid i j:Nat} {os:Array Oper} {sk is:List Nat} {s:List (Nat×V)} {h:List V} {k:St→Option R} {r:R} (hap:apartB ⟨s,h⟩ (A.apart fn rid)=true) (hin:Ic P A os fn rid j i=true)
 (hop:DC P A O fn rid os sk (j::i::is) ⟨s,h⟩ k=some r):DC P A O fn rid os sk (i::j::is) ⟨s,h⟩ k=some r:=by
 obtain⟨oj,nj,wj,h1,hoj,hnj,hop1,hwj,hej,hcj⟩:=H6 hop
 obtain⟨oi,ni,wi,h2,hoi,hni,hop2,hwi,hei,hci⟩:=H6 hop1
 simp only[Ic,hoj,hoi,Bool.and_eq_true]at hin
 obtain⟨⟨⟨⟨⟨⟨d1,d1w⟩,d2,d2w⟩,d3⟩,d4⟩,d5⟩,d6⟩:=hin
 have wr1:∀{i:Nat} {o:Oper} {x:Nat},x∈o.dst.toList→x∈U0 A fn rid i o:=fun h=>List.mem_append.2 (.inl h)
 have wr2:∀{i:Nat} {o:Oper} {x:Nat},x∈Qu A fn rid i o→x∈U0 A fn rid i o:=fun h=>List.mem_append.2 (.inr h)
 have lj:∀d,d∈QA P A os fn rid i oi→look d (ins wj s)=look d s:=fun d hd=>D8 d wj s fun p hp hpd=>by
  rcases hwj p hp with hw|⟨hw,_⟩|⟨_,hw⟩
  ·exact(BK d1 (wr1 hw) (hpd▸hd)).elim
  ·exact(BK d1 (wr2 hw) (hpd▸hd)).elim
  ·rw[hw,hpd]
 have ljw:∀d,d∈rdw P A fn rid i oi→(look d (ins wj s)).weak=(look d s).weak:=fun d hd=>EO d wj s fun p hp hpd=>by
  rcases hwj p hp with hw|⟨_,hw⟩|⟨_,hw⟩
  ·exact(BK d1w hw (hpd▸hd)).elim
  ·rw[hw,hpd,Ie]
  ·rw[hw,hpd]
 have hwi':∀p∈wi,p.1∈oi.dst.toList∨(p.1∈Qu A fn rid i oi∧p.2=(look p.1 s).weak)∨(TI os oi=some p.1∧p.2=look p.1 s):=by
  intro p hp
  rcases hwi p hp with hw|⟨hg,hw⟩|⟨hg,hw⟩
  ·exact .inl hw
  ·exact .inr (.inl ⟨hg,by rw[hw,lj _ (Yv hg)]⟩)
  ·exact .inr (.inr ⟨hg,by rw[hw];exact lj _ (by simp[QA,hg])⟩)
 have li:∀d,d∈QA P A os fn rid j oj→look d s=look d (ins wi s):=fun d hd=>(D8 d wi s fun p hp hpd=>by
  rcases hwi' p hp with hw|⟨hw,_⟩|⟨_,hw⟩
  ·exact(BK d2 (wr1 hw) (hpd▸hd)).elim
  ·exact(BK d2 (wr2 hw) (hpd▸hd)).elim
  ·rw[hw,hpd]).symm
 have liw:∀d,d∈rdw P A fn rid j oj→(look d s).weak=(look d (ins wi s)).weak:=fun d hd=>(EO d wi s fun p hp hpd=>by
  rcases hwi' p hp with hw|⟨_,hw⟩|⟨_,hw⟩
  ·exact(BK d2w hw (hpd▸hd)).elim
  ·rw[hw,hpd,Ie]
  ·rw[hw,hpd]).symm
 have sj:∀x,P9 oi=some x→AQ x nj=false:=by
  intro x hx
  rcases hnj with rfl|rfl
  ·rfl
  ·rw[hx]at d4
   simp only[Bool.not_eq_true']at d4
   have hne:=Nat.ne_of_beq_eq_false d4
   rw[Bool.eq_false_iff]
   intro hh
   have:=D9.1 hh
   simp only[List.mem_singleton]at this
   exact hne this
 have si:∀x,P9 oj=some x→AQ x ni=false:=by
  intro x hx
  rcases hni with rfl|rfl
  ·rfl
  ·rw[hx]at d5
   simp only[Bool.not_eq_true']at d5
   have hne:=Nat.ne_of_beq_eq_false d5
   rw[Bool.eq_false_iff]
   intro hh
   have:=D9.1 hh
   simp only[List.mem_singleton]at this
   exact hne this
 have hci':CFE (QO P A O os fn rid i oi (nj++sk) (ins wj s) ni wi) s (MS P A fn rid i oi) h1 h2∨CFE (QO P A O os fn rid i oi (nj++sk) (ins wj s) ni wi) s .n h1 h2:=by
  rcases hci with hci|hci
  ·left
   revert hci
   have hh:∀sl,A.home fn rid i=some sl→look sl (ins wj s)=look sl s:=fun sl hsl=>lj sl (by simp[QA,hsl])
   generalize hcc:MS P A fn rid i oi=c
   have hcl:(∀sl,c= .tk sl→A.home fn rid i=some sl)∧(∀sl,c= .hid sl→A.home fn rid i=some sl)∧(∀sl,c= .ld (some sl)→A.home fn rid i=some sl)∧(∀sl k,c= .tf sl k→A.home fn rid i=some sl)∧(∀l b,c= .kp l b→l=A.av fn rid i):=by
    subst hcc
    refine⟨fun sl hsl=> ?_,fun sl hsl=> ?_,fun sl hsl=> ?_,fun sl k hsl=> ?_,fun sl b hsl=> ?_⟩<;>(replace hsl:=Yw hsl (by simp))<;>unfold cls0 at hsl<;>(repeat' split at hsl)<;>first|(cases hsl;done)|(cases hsl;assumption)|exact Cls.ld.inj hsl|(cases hsl;rfl)
   cases c with
   |n=>exact id
   |ro=>exact id
   |ld home=>exact fun hh'=>⟨hh'.1,hh'.2.1,fun sl hsl=>by
    obtain⟨id,p,t,y,y',a,b⟩:=hh'.2.2 sl hsl
    subst hsl
    exact⟨id,p,t,y,y',by rw[←hh sl (hcl.2.2.1 sl rfl)];exact a,b⟩⟩
   |tf sl k=>exact fun⟨⟨id,p,t,y,y',a,b⟩,⟨id2,p2,t2,x,a2,b2⟩⟩=>⟨⟨id,p,t,y,y',by rw[←hh sl (hcl.2.2.2.1 sl k rfl)];exact a,b⟩,⟨id2,p2,t2,x,by rw[←hh sl (hcl.2.2.2.1 sl k rfl)];exact a2,b2⟩⟩
   |tk sl=>exact fun⟨id,p,t,y,y',a,b⟩=>⟨id,p,t,y,y',by rw[←hh sl (hcl.1 sl rfl)];exact a,b⟩
   |hid sl=>exact fun⟨id,p,t,y,a,b⟩=>⟨id,p,t,y,by rw[←hh sl (hcl.2.1 sl rfl)];exact a,b⟩
   |kp l b=>exact fun hk=>⟨fun sl hsl=>by
    have hl:look sl (ins wj s)=look sl s:=by
     have e:=hcl.2.2.2.2 l b rfl
     exact lj sl (by subst e;simp[QA,hsl])
    obtain⟨id,p,t,y,a,b⟩:=hk.1 sl hsl
    exact⟨id,p,t,y,by rw[←hl];exact a,b⟩,hk.2⟩
   |al=>exact id
   |wr=>exact id
  ·exact .inr hci
 obtain⟨h1',e1,e2⟩:=Ud hap hej hei hcj hci' d6
 rw[e1 R k (j::is) sk s (TJ lj ljw (fun x hx=>by rw[EJ,sj x hx];rfl)),
  e2 R k is (ni++sk) (ins wi s) (TJ li liw (fun x hx=>by rw[EJ,si x hx];rfl)),
  P8 wj wi s (fun p hp q hq=> ?_)]
 ·rw[Nu is _ (ni++(nj++sk)) _ (fun x=>by simp only[EJ];cases AQ x nj<;>cases AQ x ni<;>rfl)]
  exact hop2
 ·by_cases hpq:p.1=q.1
  ·have hpw:p.1∈U0 A fn rid j oj∨(TI os oj=some p.1∧p.2=look p.1 s):=by
    rcases hwj p hp with hw|⟨hw,_⟩|hw
    ·exact .inl (wr1 hw)
    ·exact .inl (wr2 hw)
    ·exact .inr hw
   have hqw:q.1∈U0 A fn rid i oi∨(TI os oi=some q.1∧q.2=look q.1 s):=by
    rcases hwi' q hq with hw|⟨hw,_⟩|hw
    ·exact .inl (wr1 hw)
    ·exact .inl (wr2 hw)
    ·exact .inr hw
   rcases hpw with hw|⟨hg,hw⟩
   ·rcases hqw with hw2|⟨hg2,hw2⟩
    ·exact(BK d3 hw (hpq▸hw2)).elim
    ·exact(BK d1 hw (by simp[QA,hpq,hg2])).elim
   ·rcases hqw with hw2|⟨hg2,hw2⟩
    ·exact(BK d2 hw2 (by simp[QA,←hpq,hg])).elim
    ·right
     obtain⟨a,b⟩:=p;obtain⟨c,d⟩:=q
     simp only at*
     subst hpq;rw[hw,hw2]
  ·exact .inl hpq
end
end AM
end
section
namespace AM
open Go
section
variable {P:Program} {A:Ann} {O:Orc}
theorem Same.refl {os:Array Oper} {fn:FuncId} {rid i:Nat} {o:Oper} {sk:List Nat} {s:List (Nat×V)}:Same P A os fn rid i o sk sk s s:=
 ⟨⟨fun _ x _ t h h2=>Ua s h h2 t x,fun _ x _ t h h2=>by rw[Ua s h h2 t x]⟩,⟨fun _ _=>rfl,fun _ _=>rfl⟩,fun _ _=>rfl,fun _ _=>rfl⟩
theorem AAX {R:Type} {fn:FuncId} {rid i:Nat} {os:Array Oper} {post:List Nat} {k:St→Option R} {r:R} (hw:∀i o,os[i]?=some o→KZ (U0 A fn rid i o) (QB (A.apart fn rid))=true):
 ∀(pre sk:List Nat) (s:List (Nat×V)) (h:List V),apartB ⟨s,h⟩ (A.apart fn rid)=true→(∀j∈pre,Ic P A os fn rid j i=true)→
 DC P A O fn rid os sk (pre++i::post) ⟨s,h⟩ k=some r→DC P A O fn rid os sk (i::(pre++post)) ⟨s,h⟩ k=some r:=by
 intro pre
 induction pre with
 |nil=>intro sk s h _ _ hop;exact hop
 |cons j pre ih=>
  intro sk s h hap hin hop
  obtain⟨o,nsk,ws,h',ho,_,hop1,hws,he,_⟩:=H6 hop
  have hap':apartB ⟨ins ws s,h'⟩ (A.apart fn rid)=true:=Kq (fun d hd=>D8 d ws s fun p hp hpd=>by
   rcases hws p hp with hh|⟨hh,_⟩|⟨_,hh⟩
   ·exact(BK (hw j o ho) (List.mem_append.2 (.inl hh)) (hpd▸hd)).elim
   ·exact(BK (hw j o ho) (List.mem_append.2 (.inr hh)) (hpd▸hd)).elim
   ·rw[hh,hpd]) hap
  have:=ih _ _ _ hap' (fun x hx=>hin x (by simp[hx])) hop1
  have e:=he R k (i::(pre++post)) sk s Same.refl
  exact swap hap (hin j (by simp)) (e.trans this)
def QD (ms:List Nat) (o:Oper):Nat:=o.after.toList.foldl (fun m e=>if Region.binds .any e then m|||(2^e.on)|||ms.getD e.on 0 else m) 0
def Ue:List Oper→List Nat→List Nat
 |[],ms=>ms
 |o::os,ms=>Ue os (ms++[QD ms o])
theorem Kr (ms:List Nat) (o:Oper) (j:Nat) (h:(QD ms o).testBit j=true):∃e∈o.after,Region.binds .any e=true∧(e.on=j∨(ms.getD e.on 0).testBit j=true):=by
 have key:∀(l:List Edge) (m:Nat),(l.foldl (fun m e=>if Region.binds .any e then m|||(2^e.on)|||ms.getD e.on 0 else m) m).testBit j=true→
  m.testBit j=true∨∃e∈l,Region.binds .any e=true∧(e.on=j∨(ms.getD e.on 0).testBit j=true):=by
  intro l
  induction l with
  |nil=>intro m h;exact .inl h
  |cons e l ih=>
   intro m h
   simp only[List.foldl_cons]at h
   rcases ih _ h with h|⟨e',he',h⟩
   ·split at h
    ·rename_i hb
     simp only[Nat.testBit_or,Bool.or_eq_true]at h
     rcases h with(h|h)|h
     ·exact .inl h
     ·rw[Nat.testBit_two_pow]at h
      exact .inr ⟨e,by simp,hb,.inl (by simpa using h)⟩
     ·exact .inr ⟨e,by simp,hb,.inr h⟩
    ·exact .inl h
   ·exact .inr ⟨e',by simp[he'],h⟩
 rcases key _ _ h with h|⟨e,he,h⟩
 ·simp at h
 ·exact⟨e,Array.mem_toList_iff.1 he,h⟩
def Ku (P:Program) (A:Ann) (fn:FuncId) (rid:Nat) (os:Array Oper):Bool:=
 let M:=Ue os.toList []
 (List.range os.size).all fun i=>match os[i]? with
  |none=>false
  |some o=>Nat.beq (M.getD i 0) (QD M o)&&(o.after.all fun e=> !Region.binds .any e||Nat.blt e.on i)&&KZ (U0 A fn rid i o) (QB (A.apart fn rid))&&
   (List.range i).all fun j=>(M.getD i 0).testBit j||Ic P A os fn rid j i
structure RegOk (P:Program) (A:Ann) (fn:FuncId) (rid:Nat) (os:Array Oper) (M:List Nat):Prop where
 anc:∀i o,os[i]?=some o→M.getD i 0=QD M o
 back:∀i o,os[i]?=some o→∀e∈o.after,Region.binds .any e=true→e.on<i
 ap:∀i o,os[i]?=some o→KZ (U0 A fn rid i o) (QB (A.apart fn rid))=true
 ind:∀i j,i<os.size→j<i→(M.getD i 0).testBit j=true∨Ic P A os fn rid j i=true
theorem Uf {fn:FuncId} {rid:Nat} {os:Array Oper} (h:Ku P A fn rid os=true):RegOk P A fn rid os (Ue os.toList []):=by
 simp only[Ku,List.all_eq_true,List.mem_range]at h
 have hi:∀i o,os[i]?=some o→i<os.size:=fun i o ho=>(Array.getElem?_eq_some_iff.1 ho).1
 have key:∀i o,os[i]?=some o→Nat.beq ((Ue os.toList []).getD i 0) (QD (Ue os.toList []) o)=true∧(∀e∈o.after,Region.binds .any e=true→e.on<i)∧KZ (U0 A fn rid i o) (QB (A.apart fn rid))=true∧
  ∀j,j<i→((Ue os.toList []).getD i 0).testBit j=true∨Ic P A os fn rid j i=true:=by
  intro i o ho
  have:=h i (hi i o ho)
  rw[ho]at this
  simp only[Bool.and_eq_true,List.all_eq_true,List.mem_range,Bool.or_eq_true]at this
  obtain⟨⟨⟨a,b⟩,c⟩,d⟩:=this
  refine⟨a,fun e he hb=> ?_,c,d⟩
  rw[Array.all_eq_true_iff_forall_mem]at b
  have:=b e he
  rw[hb]at this
  simp only[Bool.not_true,Bool.false_or]at this
  exact Nat.le_of_ble_eq_true this
 refine⟨fun i o ho=>Nat.eq_of_beq_eq_true (key i o ho).1,fun i o ho=>(key i o ho).2.1,fun i o ho=>(key i o ho).2.2.1,fun i j hi hj=> ?_⟩
 exact(key i os[i] (Array.getElem?_eq_getElem hi)).2.2.2 j hj
def ACP (os:Array Oper) (listed:Array Bool):Prop:=∀i o,os[i]?=some o→listed.getD i true=true→∀e∈o.after,Region.binds .any e=true→listed.getD e.on false=true
theorem Qx {fn:FuncId} {rid:Nat} {os:Array Oper} {M:List Nat} {listed:Array Bool} (K:RegOk P A fn rid os M) (hsz:listed.size=os.size) (D:ACP os listed):∀(n i:Nat) (o:Oper),i≤n→os[i]?=some o→
 (∀e∈o.after,Region.binds .any e=true→listed.getD e.on false=true)→∀j,(M.getD i 0).testBit j=true→listed.getD j false=true:=by
 intro n
 induction n with
 |zero=>
  intro i o hi ho he j hj
  rw[K.anc i o ho]at hj
  obtain⟨e,he',hb,h⟩:=Kr M o j hj
  have:=K.back i o ho e he' hb
  omega
 |succ n ih=>
  intro i o hi ho he j hj
  rw[K.anc i o ho]at hj
  obtain⟨e,he',hb,h⟩:=Kr M o j hj
  have hl:=he e he' hb
  rcases h with h|h
  ·subst h;exact hl
  ·have hlt:=K.back i o ho e he' hb
   have hsz':e.on<os.size:=by have:=(Array.getElem?_eq_some_iff.1 ho).1;omega
   refine ih e.on os[e.on] (by omega) (Array.getElem?_eq_getElem hsz') (D e.on _ (Array.getElem?_eq_getElem hsz') ?_) j h
   have hlt2:e.on<listed.size:=by omega
   rw[Array.getD_eq_getD_getElem?,Array.getElem?_eq_getElem hlt2]at hl⊢
   exact hl
def rem (n:Nat) (listed:Array Bool):List Nat:=(List.range n).filter fun i=> !listed.getD i true
theorem Ug {n i:Nat} {listed:Array Bool} (hi:i<n) (hsz:listed.size=n) (hn:listed.getD i true=false):
 ∃pre post,rem n listed=pre++i::post∧rem n (listed.setIfInBounds i true)=pre++post∧∀j∈pre,j<i∧listed.getD j true=false:=by
 have hr:List.range n=List.range i++i::(List.range' (i+1) (n-i-1)):=by
  rw[List.range_eq_range',List.range_eq_range']
  have:n=i+(1+(n-i-1)):=by omega
  conv=>lhs;rw[this]
  rw[←List.range'_append_1,Nat.zero_add,←List.range'_append_1]
  rfl
 have hset:∀j,j≠i→(listed.setIfInBounds i true).getD j true=listed.getD j true:=fun j hj=>getD_set_ne true (Ne.symm hj)
 have hself:(listed.setIfInBounds i true).getD i true=true:=by
  rw[Array.getD_eq_getD_getElem?,Array.getElem?_setIfInBounds];simp;split<;>rfl
 refine⟨(List.range i).filter fun j=> !listed.getD j true,(List.range' (i+1) (n-i-1)).filter fun j=> !listed.getD j true,?_,?_,?_⟩
 ·unfold rem
  rw[hr,List.filter_append,List.filter_cons,hn];rfl
 ·unfold rem
  rw[hr,List.filter_append,List.filter_cons,hself]
  simp only[Bool.not_true,Bool.false_eq_true,if_false]
  congr 1
  ·refine List.filter_congr fun j hj=> ?_
   rw[hset j (by simp at hj;omega)]
  ·refine List.filter_congr fun j hj=> ?_
   rw[hset j (by simp at hj;omega)]
 ·intro j hj
  simp only[List.mem_filter,List.mem_range,Bool.not_eq_true']at hj
  exact hj
theorem Yx {R:Type} {fn:FuncId} {rid:Nat} {os:Array Oper} {M:List Nat} {k:St→Option R} {r:R} (K:RegOk P A fn rid os M):∀(fuel t:Nat) (listed:Array Bool) (sk:List Nat) (s:List (Nat×V)) (h:List V),listed.size=os.size→ACP os listed→
 (rem os.size listed).length≤fuel→apartB ⟨s,h⟩ (A.apart fn rid)=true→DC P A O fn rid os sk (rem os.size listed) ⟨s,h⟩ k=some r→DC P A O fn rid os sk (Region.linearise.go .any os fuel t listed []) ⟨s,h⟩ k=some r:=by
 intro fuel
 induction fuel with
 |zero=>
  intro t listed sk s h hsz D hf hap hop
  have:rem os.size listed=[]:=List.eq_nil_of_length_eq_zero (by omega)
  rw[this]at hop
  simpa [Region.linearise.go]using hop
 |succ fuel ih=>
  intro t listed sk s h hsz D hf hap hop
  simp only[Region.linearise.go]
  change DC P A O fn rid os sk (match(Region.ready .any os listed)[t%(Region.ready .any os listed).length]? with
   |some i=>Region.linearise.go .any os fuel (t/(Region.ready .any os listed).length) (listed.setIfInBounds i true) [i]
   |none=>[].reverse) ⟨s,h⟩ k=some r
  cases hi:(Region.ready .any os listed)[t%(Region.ready .any os listed).length]? with
  |none=>
   have hnil:Region.ready .any os listed=[]:=by
    cases hr:Region.ready .any os listed with
    |nil=>rfl
    |cons x xs=>
     rw[hr]at hi
     have hlt:t%(x::xs).length<(x::xs).length:=Nat.mod_lt _ (by simp)
     rw[List.getElem?_eq_getElem hlt]at hi
     cases hi
   have:rem os.size listed=[]:=by
    cases hr:rem os.size listed with
    |nil=>rfl
    |cons x xs=>
     exfalso
     have hx:x∈rem os.size listed:=by rw[hr];simp
     have hmin:∀y∈rem os.size listed,x≤y:=by
      have hp:(rem os.size listed).Pairwise (·<·):=List.Pairwise.filter _ List.pairwise_lt_range
      rw[hr]at hp
      intro y hy
      rw[hr]at hy
      rcases List.mem_cons.1 hy with rfl|hy
      ·exact Nat.le_refl _
      ·exact Nat.le_of_lt (List.rel_of_pairwise_cons hp hy)
     have hx':=hx
     simp only[rem,List.mem_filter,List.mem_range,Bool.not_eq_true']at hx'
     have:x∈Region.ready .any os listed:=by
      rw[mem_ready]
      refine⟨hx'.2,os[x],Array.getElem?_eq_getElem hx'.1,fun e he hb=> ?_⟩
      have hlt:=K.back x os[x] (Array.getElem?_eq_getElem hx'.1) e he hb
      rw[←Bool.not_eq_false]
      intro hf
      have:e.on∈rem os.size listed:=by
       simp only[rem,List.mem_filter,List.mem_range,Bool.not_eq_true']
       refine⟨by omega,?_⟩
       have hlt2:e.on<listed.size:=by omega
       rw[Array.getD_eq_getD_getElem?,Array.getElem?_eq_getElem hlt2]at hf⊢
       exact hf
      have:=hmin _ this
      omega
     rw[hnil]at this;cases this
   rw[this]at hop
   simpa using hop
  |some i=>
   have hm:=List.mem_of_getElem? hi
   rw[mem_ready]at hm
   obtain⟨hn,o,ho,hrd⟩:=hm
   have hlt:i<os.size:=(Array.getElem?_eq_some_iff.1 ho).1
   obtain⟨pre,post,e1,e2,hpre⟩:=Ug hlt hsz hn
   simp only[]
   rw[linearise_go_acc,List.reverse_singleton,List.singleton_append]
   rw[e1]at hop hf
   have hb:=AAX (post:=post) K.ap pre sk s h hap (fun j hj=>by
    obtain⟨hj1,hj2⟩:=hpre j hj
    rcases K.ind i j hlt hj1 with hh|hh
    ·have:=Qx K hsz D i i o (Nat.le_refl _) ho hrd j hh
     have hlt2:j<listed.size:=by omega
     rw[Array.getD_eq_getD_getElem?,Array.getElem?_eq_getElem hlt2]at this hj2
     simp only[Option.getD_some]at this hj2
     rw[this]at hj2;cases hj2
    ·exact hh) hop
   obtain⟨o',nsk,ws,h',ho',_,hop1,hws,he,_⟩:=H6 hb
   have hap':apartB ⟨ins ws s,h'⟩ (A.apart fn rid)=true:=Kq (fun d hd=>D8 d ws s fun p hp hpd=>by
    rcases hws p hp with hh|⟨hh,_⟩|⟨_,hh⟩
    ·exact(BK (K.ap i o' ho') (List.mem_append.2 (.inl hh)) (hpd▸hd)).elim
    ·exact(BK (K.ap i o' ho') (List.mem_append.2 (.inr hh)) (hpd▸hd)).elim
    ·rw[hh,hpd]) hap
   rw[he R k _ sk s Same.refl]
   refine ih _ _ _ _ _ (by simpa using hsz) ?_ (by rw[e2];simp at hf⊢;omega) hap' (by rw[e2];exact hop1)
   intro x ox hox hx e hee hbb
   have up:∀y,listed.getD y false=true→(listed.setIfInBounds i true).getD y false=true:=by
    intro y hy
    by_cases hyi:i=y
    ·subst hyi
     have hlt2:i<listed.size:=by omega
     rw[Array.getD_eq_getD_getElem?,Array.getElem?_setIfInBounds];simp[hlt2]
    ·rw[getD_set_ne false hyi];exact hy
   by_cases hxi:i=x
   ·subst hxi
    rw[ho]at hox;cases hox
    exact up _ (hrd e hee hbb)
   ·rw[getD_set_ne true hxi]at hx
    exact up _ (D x ox hox hx e hee hbb)
theorem Nv {R:Type} {fn:FuncId} {rid:Nat} {os:Array Oper} {k:St→Option R} {r:R} (hc:Ku P A fn rid os=true) {s:List (Nat×V)} {h:List V} (hap:apartB ⟨s,h⟩ (A.apart fn rid)=true)
 (hop:DC P A O fn rid os [] (List.range os.size) ⟨s,h⟩ k=some r) (t:Nat):DC P A O fn rid os [] (Region.schedule true os t) ⟨s,h⟩ k=some r:=by
 have e:rem os.size (Array.replicate os.size false)=List.range os.size:=by
  unfold rem
  rw[List.filter_eq_self]
  intro i hi
  simp only[List.mem_range]at hi
  rw[Array.getD_eq_getD_getElem?,Array.getElem?_replicate];simp[hi]
 simp only[Region.schedule,Bool.true_or,if_true,Region.linearise]
 refine Yx (Uf hc) os.size t (Array.replicate os.size false) [] s h (by simp) (fun i o ho hl=> ?_) (by rw[e];simp) hap (by rw[e];exact hop)
 have hlt:i<os.size:=(Array.getElem?_eq_some_iff.1 ho).1
 rw[Array.getD_eq_getD_getElem?,Array.getElem?_replicate]at hl
 simp[hlt]at hl
end
end AM
end
section
namespace AM
open Go
section
variable {P:Program} {A:Ann} {O:Orc} {g g':G} {w w':World}
def G.trunc (g:G) (n:Nat) (w:World):G:={β:=g.β.take n,ty:=g.ty.take n,H:=g.H,ro:=fun b=>if some b∈g.β.drop n then Aa w b else g.ro b,lro:=fun b=>if some b∈g.β.drop n then Aa w b else g.lro b}
theorem H8 {h:List V} (B:BX P g w h) (W:WG g w) {n b:Nat} (hm:some b∈g.β.drop n):∃i,n≤i∧g.β[i]?=some (some b):=by
 obtain⟨k,hk,hkk⟩:=List.mem_iff_getElem.1 hm
 refine⟨n+k,by omega,?_⟩
 rw[←List.getElem?_drop,List.getElem?_eq_getElem hk,hkk]
theorem drop_zero {h:List V} (B:BX P g w h) (W:WG g w) {n b:Nat} (hm:some b∈g.β.drop n):b<w.heap.size∧g.ro b=0∧g.lro b=0∧g.H b=none∧some b∈g.β:=by
 obtain⟨i,_,hi⟩:=H8 B W hm
 obtain⟨a,b,c,d⟩:=W.box i _ hi
 exact⟨a,b,c,d,List.mem_of_getElem? hi⟩
theorem FZ {h:List V} (B:BX P g w h) (W:WG g w) (n b:Nat):g.ro b≤(g.trunc n w).ro b:=by
 simp only[G.trunc];split
 ·rename_i hm;have:=(drop_zero B W hm).2.1;omega
 ·exact Nat.le_refl _
theorem F5 {h:List V} (B:BX P g w h) (W:WG g w) (n b:Nat):g.lro b≤(g.trunc n w).lro b:=by
 simp only[G.trunc];split
 ·rename_i hm;have:=(drop_zero B W hm).2.2.1;omega
 ·exact Nat.le_refl _
theorem MZ {h:List V} (B:BX P g w h) (W:WG g w) (n:Nat) (f:Fl) (b:Nat):g.lim f b≤(g.trunc n w).lim f b:=by
 cases f<;>first|exact FZ B W n b|exact F5 B W n b
theorem Ar {α:Type} {l:List α} {n i:Nat} {a:α}:(l.take n)[i]?=some a↔i<n∧l[i]?=some a:=by
 rw[List.getElem?_take]
 constructor
 ·intro h
  split at h
  ·exact⟨by assumption,h⟩
  ·cases h
 ·rintro ⟨h1,h2⟩;rw[if_pos h1];exact h2
theorem Ee {n i:Nat} {vs:List V} {v:V} (h:AU n vs=true) (hv:vs[i]?=some v):v.under n=true:=by
 induction vs generalizing i with
 |nil=>simp at hv
 |cons x vs ih=>
  simp only[AU,Bool.and_eq_true]at h
  cases i with
  |zero=>simp at hv;subst hv;exact h.1
  |succ i=>exact ih h.2 (by simpa using hv)
theorem LR.truncTo {h:List V} (B:BX P g w h) (W:WG g w) (n:Nat) {v:V} {c:Value} (hv:LR P g w v c):v.under n=true→LR P (g.trunc n w) w v c:=by
 induction hv with
 |bool b=>intro _;exact .bool b
 |int k n=>intro _;exact .int k n
 |str s=>intro _;exact .str s
 |nilp=>intro _;exact .nilp
 |nilf=>intro _;exact .nilf
 |nili=>intro _;exact .nili
 |ifv te pe=>intro _;exact .ifv te pe
 |undef c hc=>intro _;exact .undef c hc
 |nil e=>intro _;exact .nil e
 |emp e f a cap hf hs=>intro _;exact .emp e f a cap hf hs
 |lst e f xs b off cap cs hf ht hcl hn hc hl hb hr hcap ih=>
  intro hu
  have hxs:AU n xs=true:=by
   by_cases hff:f= .lent
   ·subst hff;simpa [V.under]using hu
   ·exact BJ n xs (hcl hff)
  rw[Ce,List.all_eq_true]at hxs
  exact .lst e f xs b off cap cs hf ht hcl hn hc (fun j x c h1 h2=>ih j x c h1 h2 (hxs x (List.mem_of_getElem? h1))) hb (Nat.le_trans hr (MZ B W n f b)) hcap
 |win id p off len e bt o n' b cap a1 a2 a3 a4 a5 a6=>
  intro hu
  have hlt:id<n:=by simpa [V.under]using hu
  exact .win id p off len e bt o n' b cap (Ar.2 ⟨hlt,a1⟩) a2 a3 (Ar.2 ⟨hlt,a4⟩) a5 a6
 |win0 id p off e bt o n' a cap a1 a2 a3 a4=>
  intro hu
  have hlt:id<n:=by simpa [V.under]using hu
  exact .win0 id p off e bt o n' a cap (Ar.2 ⟨hlt,a1⟩) a2 a3 a4
 |ref id p t bt o b h1 h2 h3=>
  intro hu
  have hlt:id<n:=by simpa [V.under]using hu
  exact .ref id p t bt o b (Ar.2 ⟨hlt,h1⟩) h2 (Ar.2 ⟨hlt,h3⟩)
 |rop t x b off cs ht hn hc hl hb hr ih=>
  intro hu
  have hx:x.under n=true:=by simpa [V.under]using hu
  rw[Aw,List.all_eq_true]at hx
  exact .rop t x b off cs ht hn hc (fun j y c h1 h2=>ih j y c h1 h2 (hx y (List.mem_of_getElem? h1))) hb (Nat.le_trans hr (F5 B W n b))
 |clo f vs cs hn hl ih=>
  intro hu
  have hx:AU n vs=true:=by simpa [V.under]using hu
  exact .clo f vs cs hn fun j x c h1 h2=>ih j x c h1 h2 (Ee hx h1)
theorem AR.truncTo {h:List V} (B:BX P g w h) (W:WG g w) (n:Nat) {v:V} {c:Value} (hv:AR P g w v c) (hu:v.under n=true):AR P (g.trunc n w) w v c:=by
 cases hv with
 |leaf hl h=>exact .leaf hl (h.truncTo B W n hu)
 |agg ht hn hl=>
  rw[Aw,List.all_eq_true]at hu
  exact .agg ht hn fun j x c a b=>(hl j x c a b).truncTo B W n (hu x (by simp only[V.fl];exact List.mem_of_getElem? a))
theorem VR.truncTo {h:List V} (B:BX P g w h) (W:WG g w) (n:Nat) {v:V} {c:Value} (hv:VR P g w v c) (hu:v.under n=true):VR P (g.trunc n w) w v c:=by
 cases hv with
 |val h=>exact .val (h.truncTo B W n hu)
 |dead c=>exact .dead c
 |tup h1 h2 h3=>exact .tup h1 h2 fun j x c a b=>(h3 j x c a b).truncTo B W n (Ee (by simpa [V.under]using hu) a)
theorem Own.truncTo {h:List V} (B:BX P g w h) (W:WG g w) (n:Nat) {e:TypeId} {m:Nat} {c:Value} {l:Nat⊕(Nat×Nat)} (ho:Own P g w e m c l):Own P (g.trunc n w) w e m c l:=by
 rcases ho with h|⟨b,off,len,cap,cs,e',fz,h1,h2,h3,h4,h5,h6,h7,h8⟩
 ·exact .inl h
 ·have hnd:some b∉g.β.drop n:=fun hm=>h3 (List.mem_of_mem_drop hm)
  exact .inr ⟨b,off,len,cap,cs,e',fz,h1,h2,fun hm=>h3 (List.mem_of_mem_take hm),h4,h5,h6,by simp only[G.trunc,if_neg hnd];exact h7,by simp only[G.trunc,if_neg hnd];exact h8⟩
theorem WG.trunc {h:List V} (B:BX P g w h) (W:WG g w) (n:Nat):WG (g.trunc n w) w:=by
 refine⟨fun b hb=> ?_,fun i b hb=> ?_,fun b=> ?_⟩
 ·obtain⟨h1,h2,h3⟩:=W.fresh b hb
  have hnd:some b∉g.β.drop n:=fun hm=>by have:=(drop_zero B W hm).1;omega
  simp only[G.trunc,if_neg hnd];exact⟨h1,h2,h3⟩
 ·obtain⟨hlt,hb⟩:=Ar.1 hb
  obtain⟨h1,h2,h3,h4⟩:=W.box i b hb
  have hnd:some b∉g.β.drop n:=fun hm=>by
   obtain⟨k,hk,hkk⟩:=H8 B W hm
   have:=B.inj i k b hb hkk
   omega
  simp only[G.trunc,if_neg hnd];exact⟨h1,h2,h3,h4⟩
 ·simp only[G.trunc]
  split
  ·exact Nat.le_refl _
  ·exact W.le b
theorem BX.trunc {h:List V} (B:BX P g w h) (W:WG g w) (n:Nat):BX P (g.trunc n w) w (h.take n):=by
 refine⟨by simp[G.trunc,B.len],by simp[G.trunc,B.tys],fun i j b h1 h2=>B.inj i j b (Ar.1 h1).2 (Ar.1 h2).2,fun i v bt h1 h2=>B.has i v bt (Ar.1 h1).2 (Ar.1 h2).2,
  fun i v h1 h2=>B.void i v (Ar.1 h1).2 (Ar.1 h2).2,fun i v h1=>B.low i v (Ar.1 h1).2,fun i v b h1 h2=> ?_⟩
 obtain⟨hlt,h1⟩:=Ar.1 h1
 obtain⟨_,h2⟩:=Ar.1 h2
 obtain⟨cs,e,fz,c1,c2,c3,c4⟩:=B.cells i v b h1 h2
 refine⟨cs,e,fz,c1,c2,c3,fun j x hx=> ?_⟩
 obtain⟨c,d1,d2,d3⟩:=c4 j x hx
 have hu:=DK (n:=i+1) (m:=n) (by omega) v (B.low i v h1)
 rw[Aw,List.all_eq_true]at hu
 exact⟨c,d1,d2.truncTo B W n (hu x (List.mem_of_getElem? hx)),fun e xs hh=>(d3 e xs hh).truncTo B W n⟩
theorem Ext.trunc {g0:G} {w0:World} {h0 h:List V} (E:Ext g0 w0 g w) (B0:BX P g0 w0 h0) (B:BX P g w h) (W:WG g w):Ext g0 w0 (g.trunc h0.length w) w:=by
 obtain⟨lb,hlb⟩:=E.beta
 obtain⟨lt,hlt⟩:=E.typ
 refine⟨E.os,E.tape,E.out,E.size,fun b hb h1 h2=> ?_,fun b hb=> ?_,⟨[],?_⟩,⟨[],?_⟩,E.bsz⟩
 ·obtain⟨a1,a2,a3,a4,a5⟩:=E.same b hb h1 h2
  have hnd:some b∉g.β.drop h0.length:=fun hm=>a3 (List.mem_of_mem_drop hm)
  exact⟨a1,a2,fun hm=>a3 (List.mem_of_mem_take hm),by simp only[G.trunc,if_neg hnd];exact a4,by simp only[G.trunc,if_neg hnd];exact a5⟩
 ·obtain⟨a1,a2,a3,a4⟩:=E.keep b hb
  exact⟨a1,Nat.le_trans a2 (FZ B W _ b),Nat.le_trans a3 (F5 B W _ b),fun h hm=>a4 h (List.mem_of_mem_take hm)⟩
 ·simp only[G.trunc,hlb,B0.len,List.take_left,List.append_nil]
 ·simp only[G.trunc,hlt,B0.tys,List.take_left,List.append_nil]
theorem GlobOk.trunc (FO:FnOk P A) {h:List V} (B:BX P g w h) (W:WG g w) (n:Nat) (Gl:GlobOk P A g w):GlobOk P A (g.trunc n w) w:=
 fun i t v hi=>⟨(Gl i t v hi).1.truncTo B W n (by simp only[V.under];exact Cc n v (FO.glob i t v hi)),(Gl i t v hi).2.1,fun hm=>(Gl i t v hi).2.2.1 (List.mem_of_mem_take hm),(Gl i t v hi).2.2.2⟩
theorem SR.less {st st':St} {tm:Array Value} (S:SR P A g w st tm) (hs:∀i,st'.get i=st.get i∨st'.get i= .undef) (hh:st'.h=st.h):SR P A g w st' tm:=by
 refine⟨fun i=> ?_,fun i e xs hi=> ?_,fun i=> ?_,by rw[hh];exact S.box,S.wg,S.glob⟩
 ·rcases hs i with h|h
  ·rw[h];exact S.slot i
  ·rw[h];exact .dead _
 ·rcases hs i with h|h
  ·exact S.own i e xs (by rw[←h];exact hi)
  ·rw[h]at hi;cases hi
 ·rcases hs i with h|h
  ·rw[h];exact S.nown i
  ·rw[h];exact .inr rfl
theorem NO.less {Sl:List Nat} {st st':St} (N:NO Sl st) (hs:∀i,st'.get i=st.get i∨st'.get i= .undef):NO Sl st':=by
 intro i e xs hi
 rcases hs i with h|h
 ·exact N i e xs (by rw[←h];exact hi)
 ·rw[h]at hi;cases hi
theorem Mc (l:List Nat) (i:Nat):∀s:List (Nat×V),look i (drop l s)=if AQ i l then .undef else look i s
 |[]=>by simp[drop,look]
 |(j,v)::s=>by
  have ih:=Mc l i s
  simp only[drop,look]
  cases hj:AQ j l
  ·simp only[cond_false,look]
   cases hji:Nat.beq j i
   ·simp only[cond_false];exact ih
   ·have:=Nat.eq_of_beq_eq_true hji
    subst this
    simp[hj]
  ·simp only[cond_true,ih]
   cases hji:Nat.beq j i
   ·simp only[cond_false]
   ·have:=Nat.eq_of_beq_eq_true hji
    subst this
    simp[hj]
theorem Ig (l:List Nat) (i:Nat):∀s:List (Nat×V),look i (hold l s)=if AQ i l then look i s else .undef
 |[]=>by simp[hold,look]
 |(j,v)::s=>by
  have ih:=Ig l i s
  simp only[hold,look]
  cases hj:AQ j l
  ·simp only[cond_false,ih]
   cases hji:Nat.beq j i
   ·simp only[cond_false]
   ·have:=Nat.eq_of_beq_eq_true hji
    subst this
    simp[hj]
  ·simp only[cond_true,look]
   cases hji:Nat.beq j i
   ·simp only[cond_false];exact ih
   ·have:=Nat.eq_of_beq_eq_true hji
    subst this
    simp[hj]
theorem Cf (st:St) (l:List Nat) (i:Nat):({st with s:=drop l st.s}:St).get i=st.get i∨({st with s:=drop l st.s}:St).get i= .undef:=by
 simp only[St.get,Mc]
 split
 ·exact .inr rfl
 ·exact .inl rfl
theorem F6 (st:St) (h:List V) (l:List Nat) (i:Nat):(⟨hold l st.s,h⟩:St).get i=st.get i∨(⟨hold l st.s,h⟩:St).get i= .undef:=by
 simp only[St.get,Ig]
 split
 ·exact .inl rfl
 ·exact .inr rfl
theorem SR.trunc (FO:FnOk P A) {st:St} {tm:Array Value} (S:SR P A g w st tm) {n:Nat} {l:List Nat} (hu:AU n (l.map st.get)=true):SR P A (g.trunc n w) w ⟨hold l st.s,st.h.take n⟩ tm:=by
 have lk:∀i,(⟨hold l st.s,st.h.take n⟩:St).get i= .undef∨((⟨hold l st.s,st.h.take n⟩:St).get i=st.get i∧(st.get i).under n=true):=by
  intro i
  simp only[St.get,Ig]
  split
  ·rename_i hi
   refine .inr ⟨rfl,?_⟩
   have hm:st.get i∈l.map st.get:=List.mem_map.2 ⟨i,D9.1 hi,rfl⟩
   obtain⟨j,hj,he⟩:=List.mem_iff_getElem.1 hm
   exact Ee hu (by rw[List.getElem?_eq_getElem hj,he];rfl)
  ·exact .inl rfl
 refine⟨fun i=> ?_,fun i e xs hi=> ?_,fun i=> ?_,S.box.trunc S.wg n,S.wg.trunc S.box n,S.glob.trunc FO S.box S.wg n⟩
 ·rcases lk i with h|⟨h,hu⟩
  ·rw[h];exact .dead _
  ·rw[h];exact(S.slot i).truncTo S.box S.wg n hu
 ·rcases lk i with h|⟨h,_⟩
  ·rw[h]at hi;cases hi
  ·rw[h]at hi;exact(S.own i e xs hi).truncTo S.box S.wg n
 ·rcases lk i with h|⟨h,_⟩
  ·rw[h];exact .inr rfl
  ·rw[h];exact S.nown i
end
end AM
end
section
namespace AM
open Go
section
variable {P:Program} {A:Ann} {O:Orc} {g g':G} {w w':World}
theorem Md (L:Lay P) {h:List V} (B:BX P g w h) {id:Nat} {p:List Nat} {off len:Nat} {e:TypeId} {c:Value} {xs:List V} (hw:LR P g w (.win id p off len e) c) (hxs:Aj h (.win id p off len e)=some xs):
 (xs=[]∧∃a cap,c= .slice a 0 cap∧(a=none→cap=0))∨∃b o cap cs,c= .slice (some ⟨b,o,none⟩) xs.length cap∧g.β[id]?=some (some b)∧LRs P g w (Ad xs) cs∧(∀(j:Nat) (c:Value),cs[j]?=some c→w.cell? ⟨b,o+j,none⟩=some c)∧
  (∀x∈xs,HT P e x)∧o+cs.length≤Aa w b∧b<w.heap.size∧xs.length≤cap∧(p=[]→(∃e' n',g.ty[id]?=some (.row e' n'))→o+cap*P.cellsOf e≤Aa w b):=by
 obtain⟨hsrc,_⟩:=Cb L B hxs (VR.lf rfl hw)
 simp only[Aj]at hxs
 obtain⟨ys,hys,rfl⟩:=Option.map_eq_some_iff.1 hxs
 obtain⟨v,hv,hi⟩:=Option.bind_eq_some_iff.1 hys
 cases hw with
 |win0 _ _ _ _ bt o n a cap h1 h2 h3 h4=>exact .inl ⟨by rw[List.take_zero],a,cap,rfl,h4⟩
 |win _ _ _ _ _ bt o n b cap h1 h2 h3 h4 h5 h6=>
  obtain⟨r1,r2,r3,_⟩:=B.arr L h1 h2 hv hi
  have ht':∀x∈(ys.drop off).take len,HT P e x:=fun x hx=>r2 x (List.mem_of_mem_drop (List.mem_of_mem_take hx))
  obtain⟨v0,hv0,_⟩:=Option.bind_eq_some_iff.1 hv
  obtain⟨cs0,e0,fz,c1,c2,c3,c4⟩:=B.cells id v0 b hv0 h4
  have hlen:((ys.drop off).take len).length=len:=by simp;omega
  by_cases h0:len=0
  ·subst h0
   exact .inl ⟨by rw[List.take_zero],_,_,rfl,fun h=>by cases h⟩
  ·right
   generalize hc:Value.slice (some ⟨b,o+off*P.cellsOf e,none⟩) len cap=c at hsrc
   generalize hxx:(ys.drop off).take len=xs at hsrc ht' hlen⊢
   cases hsrc with
   |nil a cap=>simp at hlen;omega
   |str s=>cases hc
   |cells _ b' off' cap' cs q1 q2=>
    simp only[Value.slice.injEq,Option.some.injEq,Addr.mk.injEq]at hc
    obtain⟨⟨rfl,rfl,_⟩,_,rfl⟩:=hc
    have hat:v0.at p=some v:=by
     have hv':=hv
     unfold rd at hv'
     rw[hv0]at hv';exact hv'
    have hset:Dx v ys=v:=by
     cases v with
     |row=>simp only[V.items,Option.some.injEq]at hi;subst hi;rfl
     |agg=>simp only[V.items,Option.some.injEq]at hi;subst hi;rfl
     |_=>rfl
    obtain⟨_,u2,_⟩:=B.arrUpd L h1 h2 hv0 hat hi (zs:=ys) r1 r2 (by rw[hset];exact V.upd_at_self p hat)
    have hcl:cs.length=len*P.cellsOf e:=by rw[q1.1,AY L xs e fun x hx=>HT.size L (ht' x hx),hlen]
    have hbs:Aa w b=cs0.size:=by simp[Aa,c1]
    refine⟨b,_,cap,cs,rfl,h4,q1,q2,ht',?_,lt_of_block c1,by rw[hlen];exact h5,fun hp hr=> ?_⟩
    rotate_left
    ·obtain⟨e',n',hr⟩:=hr
     rw[h1]at hr
     exact h6 hp ⟨e',n',Option.some.inj hr⟩
    rw[hbs,hcl,Nat.add_assoc,←Nat.add_mul]
    exact Nat.le_trans (Nat.le_trans (Nat.add_le_add_left (Nat.mul_le_mul_right _ h3) o) u2) c2
theorem LR.unmut (L:Lay P) {h:List V} (B:BX P g w h) (W:WG g w) (n:Nat) {v:V} {c:Value} (hv:LR P g w v c) (ho:v.over n=true) (hc:(v.unmut h).norm.clean=true):LR P (g.trunc n w) w (v.unmut h).norm c:=by
 have cl:∀{v c},LR P g w v c→v.clean=true→LR P (g.trunc n w) w v c:=fun hv hc=>LR.cleanTo (g:=g) (g2:=g.trunc n w) (fun b _=>FZ B W n b) hv hc
 have win:∀{id p off len e c},LR P g w (.win id p off len e) c→(V.win id p off len e).over n=true→((V.win id p off len e).unmut h).norm.clean=true→LR P (g.trunc n w) w ((V.win id p off len e).unmut h).norm c:=by
  intro id p off len e c hw ho hc
  simp only[V.unmut]at hc⊢
  split
  ·rename_i xs hxs
   rw[hxs]at hc
   simp only at hc
   split
   ·rename_i hcx
    rw[if_pos hcx]at hc
    show LR P (g.trunc n w) w (.lst e .sh (Ag xs)) c
    rcases Md L B hw hxs with⟨rfl,a,cap,rfl,h4⟩|⟨b,o,cap,cs,rfl,h4,q1,q2,ht,hsz,hb,hcap,_⟩
    ·exact .emp e .sh a cap (by simp) (fun h=>⟨rfl,h4 h⟩)
    ·have hid:n≤id:=Nat.le_of_ble_eq_true (by simpa [V.over]using ho)
     have hm:some b∈g.β.drop n:=by
      refine List.mem_of_getElem? (i:=id-n) ?_
      rw[List.getElem?_drop,Nat.add_sub_cancel' hid];exact h4
     have q1':=LRs.norm ht q1
     have hnl:(Ag xs).length=xs.length:=by rw[Aq];simp
     have:=LR.lst (P:=P) (g:=g.trunc n w) (w:=w) e .sh (Ag xs) b o cap cs (by simp) (fun x hx=>by
      rw[Aq,List.mem_map]at hx
      obtain⟨y,hy,rfl⟩:=hx
      exact(ht y hy).norm) (fun _=>Bf xs hcx) q1'.1 q2 (fun j x c a1 a2=>cl (q1'.2 j x c a1 a2) (CQ _ (Bf xs hcx) x (List.mem_of_getElem? a1))) hb
      (by simp only[G.lim,G.trunc,if_pos hm];exact hsz) (by rw[hnl];exact hcap)
     rw[hnl]at this
     exact this
   ·rename_i hcx
    rw[if_neg hcx]at hc
    simp[V.norm,V.clean]at hc
  ·rename_i hxs
   rw[hxs]at hc
   simp[V.norm,V.clean]at hc
 cases hv with
 |bool b=>exact .bool b
 |int k n=>exact .int k n
 |str s=>exact .str s
 |nilp=>exact .nilp
 |nilf=>exact .nilf
 |nili=>exact .nili
 |ifv te pe=>exact .ifv te pe
 |undef c hcc=>simp[V.unmut,V.norm,V.clean]at hc
 |nil e=>exact .emp e .sh none 0 (by simp) (fun _=>⟨rfl,rfl⟩)
 |emp e f a cap hf hs=>cases f<;>first|exact(hf rfl).elim|exact .emp e _ a cap (by simp) hs|exact .emp e _ a cap (by simp) (fun h=>⟨rfl,(hs h).2⟩)
 |lst e f xs b off cap cs hf ht hcl hn hcs hl hb hro hcap=>
  have share:AL xs=true→g.lim f b=g.ro b→LR P (g.trunc n w) w (.lst e .sh xs) (.slice (some ⟨b,off,none⟩) xs.length cap):=fun hcx hlim=>
   .lst e .sh xs b off cap cs (by simp) ht (fun _=>hcx) hn hcs (fun j x c h1 h2=>cl (hl j x c h1 h2) (CQ xs hcx x (List.mem_of_getElem? h1))) hb (by rw[hlim]at hro;exact Nat.le_trans hro (FZ B W n b)) hcap
  cases f with
  |nil=>exact(hf rfl).elim
  |own=>exact share (hcl (by simp)) rfl
  |sh=>exact share (hcl (by simp)) rfl
  |non=>exact share (hcl (by simp)) rfl
  |lent=>simp[V.unmut,V.norm,V.clean]at hc
 |win id p off len e bt o n' b cap h1 h2 h3 h4 h5 h6=>
  exact win (.win id p off len e bt o n' b cap h1 h2 h3 h4 h5 h6) ho hc
 |win0 id p off e bt o n' a cap h1 h2 h3 h4=>
  exact win (.win0 id p off e bt o n' a cap h1 h2 h3 h4) ho hc
 |ref id p t bt o b h1 h2 h3=>simp[V.unmut,V.norm,V.clean]at hc
 |rop t x b off cs ht hn hcs hl hb hro=>simp[V.unmut,V.norm,V.clean]at hc
 |clo f vs cs hn hl=>simp[V.unmut,V.norm,V.clean]at hc
theorem Ef (h:List V) (vs:List V):Ba h vs=vs.map (V.unmut h):=by
 induction vs with
 |nil=>rfl
 |cons v vs ihv=>simp only[Ba,List.map_cons];rw[ihv]
theorem HT.unmut (h:List V) {t:TypeId} {v:V} (ht:HT P t v):HT P t (v.unmut h):=by
 induction ht with
 |scal hk hv ho=>
  rename_i t v
  cases v<;>simp[V.scal]at hv<;>simp only[V.unmut]<;>exact .scal hk rfl ho
 |undef hk=>exact .undef hk
 |undefS hk=>exact .undefS hk
 |lst hk=>rename_i t e f xs;exact .lst hk
 |win hk=>
  simp only[V.unmut]
  split
  ·exact .lst hk
  ·exact .undefS hk
 |struct hk hl _ ih=>
  rename_i t u fs vs _
  simp only[V.unmut]
  rw[Ef]
  refine .struct hk (by simp[hl]) fun i ft v h1 h2=> ?_
  rw[List.getElem?_map,Option.map_eq_some_iff]at h2
  obtain⟨v',h2,rfl⟩:=h2
  exact ih i ft v' h1 h2
 |array hk hl _ ih=>
  rename_i t u n e vs _
  simp only[V.unmut]
  rw[Ef]
  refine .array hk (by simp[hl]) fun v hv=> ?_
  rw[List.mem_map]at hv
  obtain⟨v',hv,rfl⟩:=hv
  exact ih v' hv
theorem JA (h:List V) {v:V} (hv:v.leafy=true):(v.unmut h).leafy=true:=by
 cases v with
 |agg=>simp[V.leafy]at hv
 |row=>simp[V.leafy]at hv
 |tup=>simp[V.leafy]at hv
 |win id p off len e=>simp only[V.unmut];split<;>rfl
 |_=>rfl
theorem HT.fl_unmut (h:List V) {t:TypeId} {v:V} (ht:HT P t v):(v.unmut h).fl=v.fl.map (V.unmut h):=by
 have leaf:∀{v:V},v.leafy=true→(v.unmut h).fl=v.fl.map (V.unmut h):=by
  intro v hv
  rw[FM hv,FM (JA h hv)];rfl
 have key:∀vs:List V,(∀v∈vs,(v.unmut h).fl=v.fl.map (V.unmut h))→Ad (Ba h vs)=(Ad vs).map (V.unmut h):=by
  intro vs
  induction vs with
  |nil=>intro _;rfl
  |cons v vs ih=>
   intro hh
   simp only[Ba,Ad,List.map_append]
   rw[hh v (by simp),ih fun v hv=>hh v (by simp[hv])]
 induction ht with
 |scal hk hv ho=>rename_i t v;exact leaf (by cases v<;>simp[V.scal]at hv<;>rfl)
 |undef=>exact leaf rfl
 |undefS=>exact leaf rfl
 |lst=>exact leaf rfl
 |win=>exact leaf rfl
 |struct hk hl _ ih=>
  rename_i t u fs vs _
  simp only[V.unmut,V.fl]
  refine key vs fun v hv=> ?_
  obtain⟨i,hi,rfl⟩:=List.mem_iff_getElem.1 hv
  exact ih i (fs[i]'(by omega)) vs[i] (List.getElem?_eq_getElem _) (List.getElem?_eq_getElem _)
 |array hk hl _ ih=>
  simp only[V.unmut,V.fl]
  exact key _ ih
mutual
theorem TL (n:Nat):∀v:V,v.over n=true→∀x∈v.fl,x.over n=true
 | .agg t fs,h,x,hx=>by simp only[V.fl]at hx;exact Kv n fs (by simpa [V.over]using h) x hx
 | .row t fs,h,x,hx=>by simp only[V.fl]at hx;exact Kv n fs (by simpa [V.over]using h) x hx
 | .tup fs,h,x,hx=>by simp[V.fl]at hx;subst hx;exact h
 | .lst e f xs,h,x,hx=>by simp[V.fl]at hx;subst hx;exact h
 | .bool _,h,x,hx=>by simp[V.fl]at hx;subst hx;exact h
 | .int _ _,h,x,hx=>by simp[V.fl]at hx;subst hx;exact h
 | .str _,h,x,hx=>by simp[V.fl]at hx;subst hx;exact h
 | .win _ _ _ _ _,h,x,hx=>by simp[V.fl]at hx;subst hx;exact h
 | .ref _ _ _,h,x,hx=>by simp[V.fl]at hx;subst hx;exact h
 | .rop _ _,h,x,hx=>by simp[V.fl]at hx;subst hx;exact h
 | .nilp,h,x,hx=>by simp[V.fl]at hx;subst hx;exact h
 | .clo _ _,h,x,hx=>by simp[V.fl]at hx;subst hx;exact h
 | .nilf,h,x,hx=>by simp[V.fl]at hx;subst hx;exact h
 | .nili,h,x,hx=>by simp[V.fl]at hx;subst hx;exact h
 | .ifv,h,x,hx=>by simp[V.fl]at hx;subst hx;exact h
 | .undef,h,x,hx=>by simp[V.fl]at hx;subst hx;exact h
theorem Kv (n:Nat):∀vs:List V,Bv n vs=true→∀x∈Ad vs,x.over n=true
 |[],_,x,hx=>by simp[Ad]at hx
 |v::vs,h,x,hx=>by
  simp only[Bv,Bool.and_eq_true]at h
  simp only[Ad,List.mem_append]at hx
  rcases hx with hx|hx
  ·exact TL n v h.1 x hx
  ·exact Kv n vs h.2 x hx
end
theorem Uh {n i:Nat} {vs:List V} {v:V} (h:Bv n vs=true) (hv:vs[i]?=some v):v.over n=true:=by
 induction vs generalizing i with
 |nil=>simp at hv
 |cons x vs ih=>
  simp only[Bv,Bool.and_eq_true]at h
  cases i with
  |zero=>simp at hv;subst hv;exact h.1
  |succ i=>exact ih h.2 (by simpa using hv)
theorem Qy {i:Nat} {vs:List V} {v:V} (h:AL vs=true) (hv:vs[i]?=some v):v.clean=true:=by
 rw[Bj,List.all_eq_true]at h
 exact h v (List.mem_of_getElem? hv)
theorem AR.unmut (L:Lay P) {h:List V} (B:BX P g w h) (W:WG g w) (n:Nat) {v:V} {c:Value} (hv:AR P g w v c) (ho:v.over n=true) (hc:(v.unmut h).norm.clean=true):AR P (g.trunc n w) w (v.unmut h).norm c:=by
 cases hv with
 |leaf hl hv=>
  have hl2:=JA h hl
  refine .leaf ?_ (hv.unmut L B W n ho hc)
  generalize v.unmut h=u at hl2
  cases u with
  |lst e f xs=>cases f<;>rfl
  |agg=>simp[V.leafy]at hl2
  |row=>simp[V.leafy]at hl2
  |tup=>simp[V.leafy]at hl2
  |_=>rfl
 |agg ht hn hl=>
  rename_i t u fs cs
  have e1:=HT.fl_unmut h ht
  have ht':=ht.unmut h
  have hnt:=ht'.noTup
  have e2:=Nj _ hnt.1 hnt.2
  have hcl:=KR _ hc
  rw[e2,e1]at hcl
  rw[e1]at e2
  simp only[V.unmut,V.norm,V.fl]at e2⊢
  have htn:=ht'.norm
  simp only[V.unmut,V.norm]at htn
  refine .agg htn (by rw[e2];simp[hn]) fun j x c h1 h2=> ?_
  rw[e2,List.getElem?_map,Option.map_eq_some_iff]at h1
  obtain⟨y,h1,rfl⟩:=h1
  rw[List.getElem?_map,Option.map_eq_some_iff]at h1
  obtain⟨z,h1,rfl⟩:=h1
  refine(hl j z c h1 h2).unmut L B W n (TL n _ ho z (by simp only[V.fl];exact List.mem_of_getElem? h1)) (hcl _ ?_)
  refine List.mem_map.2 ⟨z.unmut h,List.mem_map.2 ⟨z,?_,rfl⟩,rfl⟩
  simp only[V.fl];exact List.mem_of_getElem? h1
inductive RR (P:Program) (g:G) (w:World):V→Value→Prop where
 |one {v:V} {c:Value}:VR P g w v c→RR P g w v c
 |tup {vs:List V} {cs:List Value}:vs.length=cs.length→(∀(j:Nat) (x:V) (c:Value),vs[j]?=some x→cs[j]?=some c→AR P g w x c)→RR P g w (.tup vs) (.tuple cs.toArray)
theorem RR.norm {v:V} {c:Value} (h:RR P g w v c):VR P g w v.norm c:=by
 cases h with
 |one h=>exact h.norm
 |tup h1 h2=>
  simp only[V.norm]
  refine .tup (BQ _) (by rw[Aq];simp[h1]) fun j x c a b=> ?_
  rw[Aq,List.getElem?_map,Option.map_eq_some_iff]at a
  obtain⟨y,a,rfl⟩:=a
  exact(h2 j y c a b).norm
theorem RR.unmut (L:Lay P) {h:List V} (B:BX P g w h) (W:WG g w) (n:Nat) {v:V} {c:Value} (hv:RR P g w v c) (ho:v.over n=true) (hc:(v.unmut h).norm.clean=true):VR P (g.trunc n w) w (v.unmut h).norm c:=by
 have tup:∀{vs:List V} {cs:List Value},vs.length=cs.length→(∀(j:Nat) (x:V) (c:Value),vs[j]?=some x→cs[j]?=some c→AR P g w x c)→Bv n vs=true→AL (Ag (Ba h vs))=true→
  VR P (g.trunc n w) w (.tup (Ag (Ba h vs))) (.tuple cs.toArray):=by
  intro vs cs h1 h2 ho hc
  refine .tup (BQ _) (by rw[Aq,Ef];simp[h1]) fun j x c a b=> ?_
  have hx:=Qy hc a
  rw[Aq,Ef,List.getElem?_map,Option.map_eq_some_iff]at a
  obtain⟨y,a,rfl⟩:=a
  rw[List.getElem?_map,Option.map_eq_some_iff]at a
  obtain⟨z,a,rfl⟩:=a
  exact(h2 j z c a b).unmut L B W n (Uh ho a) hx
 cases hv with
 |one hv=>
  cases hv with
  |val hv=>exact .val (hv.unmut L B W n ho hc)
  |dead c=>simp[V.unmut,V.norm,V.clean]at hc
  |tup h1 h2 h3=>exact tup h2 h3 (by simpa [V.over]using ho) (by simpa [V.unmut,V.norm,V.clean]using hc)
 |tup h1 h2=>exact tup h1 h2 (by simpa [V.over]using ho) (by simpa [V.unmut,V.norm,V.clean]using hc)
end
end AM
end
end Go.Proofs.YtkelgdjhpgefnaaGreatDoor
