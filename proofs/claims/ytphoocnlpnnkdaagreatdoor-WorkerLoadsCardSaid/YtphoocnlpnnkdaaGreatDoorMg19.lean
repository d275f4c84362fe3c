/-
  Part of the proof of a statement about the given program: an abstract machine over its code, the simulation, its functions' equations, what they compute.
-/
import Derived.Laws.AppendOwn
import Derived.Test.YtphoocnlpnnkdaaGreatDoorMg18
set_option linter.unusedVariables false
set_option linter.unusedSimpArgs false
set_option linter.unusedSectionVars false
noncomputable section
namespace Go.Proofs.YtphoocnlpnnkdaaGreatDoor
section
namespace AM
open Go
section
variable {P:Program} {A:Ann} {g:G} {w:World}
theorem BX.arr (L:Lay P) {h:List V} (B:BX P g w h) {id:Nat} {p:List Nat} {v:V} {xs:List V} {bt:BT} {o n:Nat} {e:TypeId} (h1:g.ty[id]?=some bt) (h2:bt.arr? P p=some (o,n,e))
 (hr:rd h id p=some v) (hi:v.items=some xs):xs.length=n∧(∀x∈xs,HT P e x)∧v.fl=BD xs∧
  ∀b,g.β[id]?=some (some b)→∃cs:List Value,LRs P g w v.fl cs∧∀(j:Nat) (c:Value),cs[j]?=some c→w.cell? ⟨b,o+j,none⟩=some c:=by
 have var:∀t,bt.var? P p=some (o,t)→(∃u,K P t= .array u n e)→xs.length=n∧(∀x∈xs,HT P e x)∧v.fl=BD xs∧
  ∀b,g.β[id]?=some (some b)→∃cs:List Value,LRs P g w v.fl cs∧∀(j:Nat) (c:Value),cs[j]?=some c→w.cell? ⟨b,o+j,none⟩=some c:=by
  rintro t hv ⟨u,hk⟩
  have ht:HT P t v:=by
   unfold rd at hr
   obtain⟨v0,hv0,hat⟩:=Option.bind_eq_some_iff.1 hr
   exact((B.has id v0 bt hv0 h1).at L hv hat).1
  refine⟨?_,?_,?_,fun b hb=>(B.read L h1 hv hb hr).2⟩
  all_goals
   cases ht with
   |scal hk'=>rw[hk]at hk';cases hk'
   |undef hk'=>rw[hk]at hk';cases hk'
   |undefS hk'=>rw[hk]at hk';cases hk'
   |lst hk'=>rw[hk]at hk';cases hk'
   |win hk'=>rw[hk]at hk';cases hk'
   |struct hk'=>rw[hk]at hk';cases hk'
   |array hk' hl H=>
    rw[hk]at hk';cases hk'
    simp only[V.items,Option.some.injEq]at hi
    subst hi
    first|exact hl|exact H|rfl
 have bind:∀bt p,(BT.var? P bt p).bind (fun s=>match K P s.2 with| .array _ n e=>some (s.1,n,e)|_=>none)=some (o,n,e)→∃t,bt.var? P p=some (o,t)∧∃u,K P t= .array u n e:=by
  intro bt p h
  obtain⟨⟨o1,t1⟩,h3,h4⟩:=Option.bind_eq_some_iff.1 h
  simp only at h4
  split at h4
  ·rename_i u m e' hk
   simp only[Option.some.injEq,Prod.mk.injEq]at h4
   obtain⟨rfl,rfl,rfl⟩:=h4
   exact⟨t1,h3,u,hk⟩
  ·cases h4
 cases bt with
 |var t0=>
  obtain⟨t,h3,h4⟩:=bind _ _ h2
  exact var t h3 h4
 |row e0 n0=>
  cases p with
  |cons i p=>
   obtain⟨t,h3,h4⟩:=bind _ _ h2
   exact var t h3 h4
  |nil=>
   simp only[BT.arr?,Option.some.injEq,Prod.mk.injEq]at h2
   obtain⟨rfl,rfl,rfl⟩:=h2
   unfold rd at hr
   obtain⟨v0,hv0,hat⟩:=Option.bind_eq_some_iff.1 hr
   simp only[V.at,Option.some.injEq]at hat
   subst hat
   obtain⟨ys,rfl,hl,hy⟩:=B.has id v0 _ hv0 h1
   simp only[V.items,Option.some.injEq]at hi
   subst hi
   refine⟨hl,hy,rfl,fun b hb=> ?_⟩
   obtain⟨cs,e,fz,c1,c2,c3,c4⟩:=B.cells id _ b hv0 hb
   refine⟨cs.toList.take (V.row e0 ys).fl.length,⟨by simp;omega,fun j x c hx hj=> ?_⟩,fun j c hj=> ?_⟩
   ·rw[List.getElem?_take]at hj
    split at hj
    ·rw[Array.getElem?_toList]at hj
     obtain⟨c',hc',hl,_⟩:=c4 j x hx
     rw[hj]at hc';obtain rfl:=Option.some.inj hc'
     exact hl
    ·cases hj
   ·rw[List.getElem?_take]at hj
    split at hj
    ·rw[Array.getElem?_toList]at hj
     rw[cell_of_block c1,Nat.zero_add];exact hj
    ·cases hj
inductive Src (P:Program) (g:G) (w:World):List V→Value→Prop where
 |nil (a:Option Addr) (cap:Nat):Src P g w [] (.slice a 0 cap)
 |cells (xs:List V) (b off cap:Nat) (cs:List Value):LRs P g w (BD xs) cs→(∀(j:Nat) (c:Value),cs[j]?=some c→w.cell? ⟨b,off+j,none⟩=some c)→Src P g w xs (.slice (some ⟨b,off,none⟩) xs.length cap)
 |str (s:ByteArray):Src P g w (bytesOf s.data.toList) (.string s)
theorem LRs.drop {xs:List V} {cs:List Value} (h:LRs P g w xs cs) (k:Nat):LRs P g w (xs.drop k) (cs.drop k):=
 ⟨by simp[h.1],fun j x c h1 h2=>h.2 (k+j) x c (by rw[List.getElem?_drop]at h1;exact h1) (by rw[List.getElem?_drop]at h2;exact h2)⟩
theorem LRs.take {xs:List V} {cs:List Value} (h:LRs P g w xs cs) (k:Nat):LRs P g w (xs.take k) (cs.take k):=
 ⟨by simp[h.1],fun j x c h1 h2=>by
  rw[List.getElem?_take]at h1 h2
  split at h1
  ·rename_i hj
   rw[if_pos hj]at h2
   exact h.2 j x c h1 h2
  ·cases h1⟩
theorem Ew (L:Lay P) {h:List V} (B:BX P g w h) {x:V} {ys:List V} {c:Value} (hc:Ai h x=some ys) (hx:VR P g w x c):
 Src P g w ys c∧∃e,(∀s,x≠ .str s)→∀y∈ys,HT P e y:=by
 unfold Ai at hc
 split at hc
 ·rename_i e f xs
  obtain rfl:=Option.some.inj hc
  cases hx.leaf' rfl (by simp)with
  |nil=>exact⟨.nil none 0,e,by simp⟩
  |emp _ _ a cap=>exact⟨.nil a cap,e,by simp⟩
  |lst _ _ _ b off cap cs hf ht hcl hn hc' hl hb hro hcap=>exact⟨.cells _ b off cap cs ⟨hn,hl⟩ hc',e,fun _=>ht⟩
 ·rename_i id p off len e
  obtain⟨xs,hxs,rfl⟩:=Option.map_eq_some_iff.1 hc
  obtain⟨v,hv,hi⟩:=Option.bind_eq_some_iff.1 hxs
  cases hx.leaf' rfl (by simp)with
  |win _ _ _ _ _ bt o n b cap h1 h2 h3 h4 h5 h6=>
   obtain⟨r1,r2,r3,r4⟩:=B.arr L h1 h2 hv hi
   obtain⟨cs,l1,l2⟩:=r4 b h4
   refine⟨?_,e,fun _ y hy=>r2 y (List.mem_of_mem_drop (List.mem_of_mem_take hy))⟩
   have hlen:((xs.drop off).take len).length=len:=by simp;omega
   have hsz:BD ((xs.drop off).take len)=((BD xs).drop (off*P.cellsOf e)).take (len*P.cellsOf e):=by
    rw[Ji L e _ _ fun y hy=>r2 y (List.mem_of_mem_drop hy),Md L e xs off r2]
   have:=Src.cells (P:=P) (g:=g) (w:=w) ((xs.drop off).take len) b (o+off*P.cellsOf e) cap ((cs.drop (off*P.cellsOf e)).take (len*P.cellsOf e))
    (by rw[hsz,←r3];exact(l1.drop _).take _)
    (fun j c hj=>by
     rw[List.getElem?_take]at hj
     split at hj
     ·rw[List.getElem?_drop]at hj
      rw[Nat.add_assoc];exact l2 _ c hj
     ·cases hj)
   rw[hlen]at this
   exact this
  |win0 _ _ _ _ bt o n a cap h1 h2 h3 h4=>
   rw[List.take_zero]
   exact⟨.nil a cap,e,by simp⟩
 ·obtain rfl:=Option.some.inj hc
  obtain⟨b,rfl,rfl⟩:=hx.str'
  exact⟨.str b,0,fun h=>(h _ rfl).elim⟩
 ·cases hc
theorem HT.of_tyOk {t t':TypeId} {v:V} (h:HT P t v) (hk:Bc P t' v=true):HT P t' v:=by
 unfold Bc at hk
 split at hk
 ·rename_i hk'
  refine .scal hk' ?_ hk
  unfold Bd at hk
  split at hk<;>first|cases hk|skip
  all_goals (split at hk<;>first|rfl|cases hk)
 ·rename_i e hk'
  split at hk<;>first|cases hk|skip
  ·simp only[beq_iff_eq]at hk;subst hk;exact .lst hk'
  ·simp only[beq_iff_eq]at hk;subst hk;exact .win hk'
 ·rename_i u fs hk'
  split at hk<;>first|cases hk|skip
  simp only[beq_iff_eq]at hk;subst hk
  exact h.of_tag (.inl ⟨_,hk'⟩)
 ·rename_i u n e hk'
  split at hk<;>first|cases hk|skip
  simp only[beq_iff_eq]at hk;subst hk
  exact h.of_tag (.inr ⟨_,_,hk'⟩)
 ·cases hk
theorem ND:∀{ys:List V} {s:List UInt8},Fg ys=some s→∃ns:List Int,ys=ns.map (V.int .u8)∧s=ns.map fun n=>UInt8.ofNat n.toNat
 |[],s,h=>by simp[Fg]at h;subst h;exact⟨[],rfl,rfl⟩
 |y::ys,s,h=>by
  simp only[Fg]at h
  obtain⟨b,hb,h⟩:=Option.bind_eq_some_iff.1 h
  obtain⟨s',hs',rfl⟩:=Option.map_eq_some_iff.1 h
  obtain⟨ns,rfl,rfl⟩:=ND hs'
  unfold byteOf at hb
  split at hb
  ·rename_i n
   obtain rfl:=Option.some.inj hb
   exact⟨n::ns,rfl,rfl⟩
  ·cases hb
theorem AJb (k:IntKind) (ns:List Int):BD (ns.map (V.int k))=ns.map (V.int k):=by
 induction ns with
 |nil=>rfl
 |cons n ns ih=>simp[BD,V.fl,ih]
theorem LRs.ints {k:IntKind}:∀{ns:List Int} {cs:List Value},LRs P g w (ns.map (V.int k)) cs→cs=ns.map (Value.int k)
 |[],cs,h=>by have:=h.1;simp at this;exact this
 |n::ns,cs,h=>by
  cases cs with
  |nil=>have:=h.1;simp at this
  |cons c cs=>
   have h0:=h.2 0 (.int k n) c rfl rfl
   cases h0
   rw[LRs.ints (ns:=ns) (cs:=cs) ⟨by have:=h.1;simpa using this,fun j x c h1 h2=>h.2 (j+1) x c (by simpa using h1) (by simpa using h2)⟩]
   rfl
theorem SG:∀(ns:List Int) (s:ByteArray),(forIn (m:=Sem) (ns.map (Value.int .u8)) s fun c r=>(match c with
 | .int .u8 n=>pure (.yield (r.push (UInt8.ofNat n.toNat)))
 |_=>Go.stuck "bytesToString: byte expected")).run P w= .ok (⟨s.data++(ns.map fun n=>UInt8.ofNat n.toNat).toArray⟩) w
 |[],s=>by simp
 |n::ns,s=>by
  simp only[List.map_cons,List.forIn_cons,Sem.run_bind,Sem.run_pure,Result.andThen_ok]
  rw[SG ns]
  congr 2
  simp[ByteArray.push]
theorem run_bytesToString {ns:List Int} {c:Value} (h:Src P g w (ns.map (V.int .u8)) c) (hs:∀s,c≠ .string s):
 ∃s:ByteArray,(Conv.bytesToString c).run P w= .ok (.string s) w∧s.data.toList=ns.map fun n=>UInt8.ofNat n.toNat:=by
 generalize hy:ns.map (V.int .u8)=ys at h
 cases h with
 |nil a cap=>
  have:ns=[]:=by simpa using hy
  subst this
  refine⟨.empty,?_,rfl⟩
  cases a with
  |none=>rfl
  |some a=>simp[Conv.bytesToString,loadCells,loadCellsFrom]
 |cells _ b off cap cs h1 h2=>
  subst hy
  rw[AJb]at h1
  obtain rfl:=h1.ints
  have hl:=run_loadCells_list (P:=P) (w:=w) ⟨b,off,none⟩ (ns.map (Value.int .u8)) (fun j v hj=>by rw[addr_add];exact h2 j v hj)
  refine⟨⟨(ns.map fun n=>UInt8.ofNat n.toNat).toArray⟩,?_,by simp⟩
  simp only[List.length_map]at hl⊢
  simp only[Conv.bytesToString,Sem.run_bind,hl,Result.andThen_ok]
  have:=SG (P:=P) (w:=w) ns ByteArray.empty
  simp at this⊢
  exact this
 |str s=>exact(hs s rfl).elim
end
end AM
end
end Go.Proofs.YtphoocnlpnnkdaaGreatDoor
