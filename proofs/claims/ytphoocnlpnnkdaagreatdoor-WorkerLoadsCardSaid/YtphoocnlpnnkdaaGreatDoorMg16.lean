/-
  Part of the proof of a statement about the given program: an abstract machine over its code, the simulation, its functions' equations, what they compute.
-/
import Derived.Lib.Strings
import Derived.Test.YtphoocnlpnnkdaaGreatDoorMg15
set_option linter.unusedVariables false
set_option linter.unusedSimpArgs false
set_option linter.unusedSectionVars false
noncomputable section
namespace Go.Proofs.YtphoocnlpnnkdaaGreatDoor
section
namespace AM
open Go
section
variable {P:Program} {A:Ann} {g:G} {w:World}
theorem toList_eq (b:ByteArray):b.toList=b.data.toList:=Lib.toList_data b
theorem AMd {op:BinOp} {t:TypeId} {k k':IntKind} {a b:Int} {v:V} {xo yo:Operand} (h:AL op (.int k a) (.int k' b)=some v):
 ∃c,(do eqGuard op t xo yo (.int k a) (.int k' b);binOp op t (.int k a) (.int k' b):Sem Value).run P w= .ok c w∧VR P g w v c∧v.noOwn=true:=by
 have hg:(eqGuard op t xo yo (.int k a) (.int k' b)).run P w= .ok () w:=by
  unfold eqGuard
  cases op<;>rfl
 rw[Sem.run_bind,hg,Result.andThen_ok]
 cases op
 case shl=>
  simp only[AL]at h
  split at h
  ·cases h
  ·rename_i hb
   obtain rfl:=Option.some.inj h
   refine⟨.int k (k.wrap (a*2^(min b.toNat k.bits))),?_,.of_int _ _,rfl⟩
   simp[binOp,Op.shift,hb]
 case shr=>
  simp only[AL]at h
  split at h
  ·cases h
  ·rename_i hb
   obtain rfl:=Option.some.inj h
   refine⟨.int k (a.fdiv (2^(min b.toNat k.bits))),?_,.of_int _ _,rfl⟩
   simp[binOp,Op.shift,hb]
 all_goals
  simp only[AL]at h
  split at h
  ·cases h
  rename_i hk
  simp only[ne_eq,Decidable.not_not]at hk
  subst hk
 case add=>obtain rfl:=Option.some.inj h;refine⟨_,?_,.of_int _ _,rfl⟩;simp[binOp,Op.intArith]
 case sub=>obtain rfl:=Option.some.inj h;refine⟨_,?_,.of_int _ _,rfl⟩;simp[binOp,Op.intArith]
 case mul=>obtain rfl:=Option.some.inj h;refine⟨_,?_,.of_int _ _,rfl⟩;simp[binOp,Op.intArith]
 case and=>obtain rfl:=Option.some.inj h;refine⟨_,?_,.of_int _ _,rfl⟩;simp[binOp,Op.intBits]
 case or=>obtain rfl:=Option.some.inj h;refine⟨_,?_,.of_int _ _,rfl⟩;simp[binOp,Op.intBits]
 case xor=>obtain rfl:=Option.some.inj h;refine⟨_,?_,.of_int _ _,rfl⟩;simp[binOp,Op.intBits]
 case andNot=>obtain rfl:=Option.some.inj h;refine⟨_,?_,.of_int _ _,rfl⟩;simp[binOp,Op.intBits]
 case quo=>
  split at h
  ·cases h
  ·rename_i hb
   obtain rfl:=Option.some.inj h
   refine⟨_,?_,.of_int _ _,rfl⟩;simp[binOp,Op.intDiv,hb]
 case rem=>
  split at h
  ·cases h
  ·rename_i hb
   obtain rfl:=Option.some.inj h
   refine⟨_,?_,.of_int _ _,rfl⟩;simp[binOp,Op.intDiv,hb]
 all_goals simp only[Xg,Option.some.injEq]at h;subst h;refine⟨_,?_,.of_bool _,rfl⟩;simp[binOp,Op.intCmp]
theorem EY (op:BinOp) (t:TypeId) (xo yo:Operand) (cx cy:Value) (h1:cx≠ .nilIface) (h2:∀cs,cx≠ .agg cs):(eqGuard op t xo yo cx cy).run P w= .ok () w:=by
 unfold eqGuard
 cases cx<;>first|exact(h1 rfl).elim|exact(h2 _ rfl).elim|(cases op<;>rfl)
theorem AMe {op:BinOp} {t:TypeId} {a b:List UInt8} {x y:ByteArray} {v:V} {xo yo:Operand} (hx:x.data.toList=a) (hy:y.data.toList=b) (h:AL op (.str a) (.str b)=some v):
 ∃c,(do eqGuard op t xo yo (.string x) (.string y);binOp op t (.string x) (.string y):Sem Value).run P w= .ok c w∧VR P g w v c∧v.noOwn=true:=by
 rw[Sem.run_bind,EY op t xo yo _ _ (by simp) (by simp),Result.andThen_ok]
 subst hx hy
 have ex:x.toList=x.data.toList:=toList_eq x
 have ey:y.toList=y.data.toList:=toList_eq y
 cases op
 case add=>
  simp only[AL]at h
  split at h
  ·rename_i hl
   obtain rfl:=Option.some.inj h
   have hn:¬((x.size+y.size:Nat):Int)>IntKind.i64.max:=by
    have e1:x.size=x.data.toList.length:=Array.length_toList.symm
    have e2:y.size=y.data.toList.length:=Array.length_toList.symm
    rw[e1,e2]
    simp only[IntKind.max,IntKind.signed,IntKind.bits]
    simp at hl⊢
    omega
   refine⟨.string (x++y),?_,.of_str (by simp),rfl⟩
   simp only[binOp,Op.stringOp]
   rw[if_neg hn];rfl
  ·cases h
 all_goals first
  |(cases h;done)
  |(simp only[AL,Option.some.injEq]at h;subst h;refine⟨_,?_,.of_bool _,rfl⟩;simp[binOp,Op.stringOp,ex,ey])
theorem AQ0 {op:UnOp} {x v:V} {cx:Value} (h:un op x=some v) (hx:VR P g w x cx):∃c,(Op.unary op cx).run P w= .ok c w∧VR P g w v c∧v.noOwn=true:=by
 unfold un at h
 split at h
 ·obtain rfl:=hx.int';obtain rfl:=Option.some.inj h;exact⟨_,rfl,.of_int _ _,rfl⟩
 ·obtain rfl:=hx.int';obtain rfl:=Option.some.inj h;exact⟨_,rfl,.of_int _ _,rfl⟩
 ·obtain rfl:=hx.bool';obtain rfl:=Option.some.inj h;exact⟨_,rfl,.of_bool _,rfl⟩
 ·cases h
theorem Fh {t:TypeId} (h:K P t≠ .bad):t<P.types.size:=by
 rcases Nat.lt_or_ge t P.types.size with h'|h'
 ·exact h'
 ·exact(h (by unfold K;rw[if_pos (by rw[Bool.eq_false_iff];intro hh;have:=Nat.le_of_ble_eq_true hh;omega)])).elim
theorem AA2 {t:TypeId} (h:K P t≠ .bad):∃d,P.underlying t=some d:=by
 cases hu:P.underlying t with
 |some d=>exact⟨d,rfl⟩
 |none=>exact(h (by unfold K;rw[hu];split<;>rfl)).elim
theorem U2 {t:TypeId} (h:K P t≠ .bad):∃i,P.info? t=some i:=by
 obtain⟨d,hd⟩:=AA2 h
 cases hi:P.info? t with
 |some i=>exact⟨i,rfl⟩
 |none=>simp[Program.underlying,hi]at hd
theorem run_sizeOf {t:TypeId} (h:K P t≠ .bad):(sizeOf t).run P w= .ok (P.cellsOf t) w:=by
 obtain⟨i,hi⟩:=U2 h
 simp[sizeOf,typeInfo,hi,Program.cellsOf]
theorem Ad {t:TypeId} {d:TypeDesc} (h:P.underlying t=some d):(underlying t).run P w= .ok d w:=by
 simp[underlying,h]
theorem Df {t e:TypeId} (h:K P t= .slice e):P.underlying t=some (.slice e):=by
 unfold K at h
 split at h
 ·cases h
 ·split at h<;>first|(cases h;assumption)|cases h
theorem FM {t u e:TypeId} {n:Nat} (h:K P t= .array u n e):P.underlying t=some (.array n e)∧u=P.underlyingId t:=by
 unfold K at h
 split at h
 ·cases h
 ·split at h<;>first|(cases h;exact⟨by assumption,rfl⟩)|cases h
theorem FN {t u:TypeId} {fs:List TypeId} (h:K P t= .struct u fs):∃F:Array Field,P.underlying t=some (.struct F)∧fs=F.toList.map (·.type)∧u=P.underlyingId t:=by
 unfold K at h
 split at h
 ·cases h
 ·split at h<;>first|(cases h;exact⟨_,by assumption,rfl,rfl⟩)|cases h
theorem XQ {t:TypeId} (h:K P t= .scal):(isAgg t).run P w= .ok false w:=by
 have:∃d,P.underlying t=some d∧(∀F,d≠ .struct F)∧(∀n e,d≠ .array n e):=by
  unfold K at h
  split at h
  ·cases h
  ·split at h<;>first|(cases h;done)|skip
   rename_i d a1 a2 a3 a4 a5 a6 hd
   exact⟨d,hd,a2,a3⟩
 obtain⟨d,hd,h1,h2⟩:=this
 simp only[isAgg,Sem.run_bind,Ad hd,Result.andThen_ok]
 cases d<;>first|rfl|exact(h1 _ rfl).elim|exact(h2 _ _ rfl).elim
theorem D5 {t e:TypeId} (h:K P t= .slice e):(isAgg t).run P w= .ok false w:=by
 simp[isAgg,Ad (Df h)]
theorem MZ {t u:TypeId} {fs:List TypeId} (h:K P t= .struct u fs):(isAgg t).run P w= .ok true w:=by
 obtain⟨F,hF,_⟩:=FN h
 simp[isAgg,Ad hF]
theorem Oq {t u e:TypeId} {n:Nat} (h:K P t= .array u n e):(isAgg t).run P w= .ok true w:=by
 simp[isAgg,Ad (FM h).1]
def LRs (P:Program) (g:G) (w:World) (xs:List V) (cs:List Value):Prop:=
 cs.length=xs.length∧∀(j:Nat) (x:V) (c:Value),xs[j]?=some x→cs[j]?=some c→LR P g w x c
theorem AR.of_cells (L:Lay P) {t:TypeId} {v:V} {cs:List Value} (ht:HT P t v) (h:LRs P g w v.fl cs):
 ∃c,AR P g w v c∧(∀u fs,v= .agg u fs→c= .agg cs.toArray)∧(v.leafy=true→cs=[c])∧c.cells=cs.toArray:=by
 cases v with
 |agg u fs=>exact⟨.agg cs.toArray,.agg ht (by rw[h.1];rfl) h.2,fun _ _ e=>rfl,fun h=>by simp[V.leafy]at h,rfl⟩
 |row e xs=>cases ht;rename_i h1 h2 _;simp[V.scal]at h2
 |tup xs=>cases ht;rename_i h1 h2 _;simp[V.scal]at h2
 |_=>
  have h1:=h.1
  simp only[V.fl,List.length_cons,List.length_nil]at h1
  obtain⟨c,rfl⟩:∃c,cs=[c]:=by
   cases cs with
   |nil=>simp at h1
   |cons c cs=>cases cs with|nil=>exact⟨c,rfl⟩|cons=>simp at h1
  have:=h.2 0 _ c rfl rfl
  refine⟨c,.leaf rfl this,(fun _ _ e=>by cases e),(fun _=>rfl),?_⟩
  cases this<;>first|rfl|exact Fe (by assumption)
end
end AM
end
section
namespace AM
open Go
section
variable {P:Program} {A:Ann} {g:G} {w:World}
theorem Jg:∀(vs:List V) (i:Nat) (v:V),vs[i]?=some v→∀j,j<v.fl.length→(BD vs)[(BD (vs.take i)).length+j]?=v.fl[j]?
 |[],_,_,h=>by simp at h
 |x::vs,0,v,h=>by
  intro j hj
  simp only[List.getElem?_cons_zero,Option.some.injEq]at h;subst h
  simp only[List.take_zero,BD,List.length_nil,Nat.zero_add]
  rw[List.getElem?_append_left hj]
 |x::vs,i+1,v,h=>by
  intro j hj
  simp only[List.getElem?_cons_succ]at h
  simp only[List.take_succ_cons,BD,List.length_append]
  rw[Nat.add_assoc,List.getElem?_append_right (by omega),Nat.add_sub_cancel_left]
  exact Jg vs i v h j hj
theorem Mc:∀(vs:List V) (i:Nat) (v x:V),vs[i]?=some v→x.fl.length=v.fl.length→∀k,
 (BD (vs.set i x))[k]?=if(BD (vs.take i)).length≤k∧k<(BD (vs.take i)).length+v.fl.length then x.fl[k-(BD (vs.take i)).length]? else(BD vs)[k]?
 |[],_,_,_,h,_=>by simp at h
 |y::vs,0,v,x,h,hl=>by
  intro k
  simp only[List.getElem?_cons_zero,Option.some.injEq]at h;subst h
  simp only[List.set_cons_zero,List.take_zero,BD,List.length_nil,Nat.zero_le,true_and,Nat.zero_add,Nat.sub_zero]
  split
  ·rw[List.getElem?_append_left (by omega)]
  ·rw[List.getElem?_append_right (by omega),List.getElem?_append_right (by omega),hl]
 |y::vs,i+1,v,x,h,hl=>by
  intro k
  simp only[List.getElem?_cons_succ]at h
  simp only[List.set_cons_succ,List.take_succ_cons,BD,List.length_append]
  rcases Nat.lt_or_ge k y.fl.length with hk|hk
  ·rw[List.getElem?_append_left hk,List.getElem?_append_left hk,if_neg (by omega)]
  ·rw[List.getElem?_append_right hk,List.getElem?_append_right hk,Mc vs i v x h hl]
   by_cases hc:(BD (vs.take i)).length≤k-y.fl.length∧k-y.fl.length<(BD (vs.take i)).length+v.fl.length
   ·rw[if_pos hc,if_pos (by omega)];congr 1;omega
   ·rw[if_neg hc,if_neg (by omega)]
theorem JD:∀(vs:List V) (fs:List TypeId) (i:Nat),vs.length=fs.length→(∀(i:Nat) (ft:TypeId) (v:V),fs[i]?=some ft→vs[i]?=some v→v.fl.length=P.cellsOf ft)→
 (BD (vs.take i)).length=((fs.take i).map P.cellsOf).sum:=by
 intro vs fs i hl H
 refine Gz _ _ (by simp[hl]) fun j ft v h1 h2=> ?_
 rw[List.getElem?_take]at h1 h2
 split at h1
 ·rename_i hj;rw[if_pos hj]at h2;exact H j ft v h1 h2
 ·cases h1
theorem C9 (L:Lay P) (vs:List V) (e:TypeId) (i:Nat) (hi:i≤vs.length) (H:∀v∈vs,v.fl.length=P.cellsOf e):(BD (vs.take i)).length=i*P.cellsOf e:=by
 rw[Aw L _ e fun x hx=>H x (List.mem_of_mem_take hx)]
 simp[Nat.min_eq_left hi]
theorem HT.step (L:Lay P) {t u:TypeId} {vs:List V} {i o:Nat} {t':TypeId} {v:V} (h:HT P t (.agg u vs)) (hs:SC P t i=some (o,t')) (hv:vs[i]?=some v):
 HT P t' v∧o=(BD (vs.take i)).length:=by
 cases h with
 |scal hk hv' ho=>simp[V.scal]at hv'
 |struct hk hl H=>
  simp only[SC,hk]at hs
  rw[Option.map_eq_some_iff]at hs
  obtain⟨ft,hft,he⟩:=hs
  obtain⟨rfl,rfl⟩:=Prod.mk.inj he
  exact⟨H i ft v hft hv,(JD vs _ i hl fun j ft v h1 h2=>HT.size L (H j ft v h1 h2)).symm⟩
 |array hk hl H=>
  simp only[SC,hk]at hs
  split at hs
  ·rename_i hi
   obtain⟨rfl,rfl⟩:=Prod.mk.inj (Option.some.inj hs)
   exact⟨H v (List.mem_of_getElem? hv),(C9 L vs _ i (by omega) fun v hv=>HT.size L (H v hv)).symm⟩
  ·cases hs
theorem HT.at (L:Lay P) (p:List Nat):∀{t t':TypeId} {v x:V} {o:Nat},HT P t v→walk P t p=some (o,t')→v.at p=some x→
 HT P t' x∧∀j,j<P.cellsOf t'→v.fl[o+j]?=x.fl[j]?:=by
 induction p with
 |nil=>
  intro t t' v x o h hw hx
  simp only[walk,Option.some.injEq,Prod.mk.injEq]at hw
  obtain⟨rfl,rfl⟩:=hw
  simp only[V.at,Option.some.injEq]at hx
  subst hx
  exact⟨h,fun j _=>by rw[Nat.zero_add]⟩
 |cons i p ih=>
  intro t t' v x o h hw hx
  simp only[walk]at hw
  obtain⟨⟨o1,t1⟩,h1,hw⟩:=Option.bind_eq_some_iff.1 hw
  obtain⟨⟨o2,t2⟩,h2,he⟩:=Option.map_eq_some_iff.1 hw
  obtain⟨rfl,rfl⟩:=Prod.mk.inj he
  cases v with
  |agg u vs=>
   simp only[V.at]at hx
   obtain⟨y,hy,hx⟩:=Option.bind_eq_some_iff.1 hx
   obtain⟨hy',ho⟩:=h.step L h1 hy
   obtain⟨r1,r2⟩:=ih hy' h2 hx
   refine⟨r1,fun j hj=> ?_⟩
   have hjx:j<x.fl.length:=by rw[HT.size L r1];exact hj
   have e:=r2 j hj
   rw[←e]
   have hlt:o2+j<y.fl.length:=by
    rcases Nat.lt_or_ge (o2+j) y.fl.length with h'|h'
    ·exact h'
    ·rw[List.getElem?_eq_none h',List.getElem?_eq_getElem hjx]at e;cases e
   simp only[V.fl]
   rw[ho,Nat.add_assoc]
   exact Jg vs i y hy (o2+j) hlt
  |row e vs=>cases h;rename_i h3 _;simp[V.scal]at h3
  |_=>simp[V.at]at hx
theorem HT.step_lt (L:Lay P) {t u:TypeId} {vs:List V} {i o:Nat} {t':TypeId} {v:V} (h:HT P t (.agg u vs)) (hs:SC P t i=some (o,t')) (hv:vs[i]?=some v):
 o+v.fl.length≤P.cellsOf t:=by
 obtain⟨_,ho⟩:=h.step L hs hv
 have hil:i<vs.length:=by
  rcases Nat.lt_or_ge i vs.length with h'|h'
  ·exact h'
  ·rw[List.getElem?_eq_none h']at hv;cases hv
 have e1:=Dj (vs.take i) (vs.drop i)
 rw[List.take_append_drop]at e1
 have e2:vs.drop i=v::vs.drop (i+1):=by
  rw[List.getElem?_eq_getElem hil]at hv
  rw[List.drop_eq_getElem_cons hil,Option.some.inj hv]
 have e3:(BD vs).length=P.cellsOf t:=HT.size L h
 rw[e1,e2]at e3
 simp only[BD,List.length_append]at e3
 omega
theorem HT.upd (L:Lay P) (p:List Nat):∀{t t':TypeId} {v x v':V} {o:Nat},HT P t v→walk P t p=some (o,t')→HT P t' x→v.upd p x=some v'→
 HT P t v'∧o+P.cellsOf t'≤P.cellsOf t∧∀k,v'.fl[k]?=if o≤k∧k<o+P.cellsOf t' then x.fl[k-o]? else v.fl[k]?:=by
 induction p with
 |nil=>
  intro t t' v x v' o h hw hx hu
  simp only[walk,Option.some.injEq,Prod.mk.injEq]at hw
  obtain⟨rfl,rfl⟩:=hw
  simp only[V.upd,Option.some.injEq]at hu
  subst hu
  refine⟨hx,by omega,fun k=> ?_⟩
  split
  ·rfl
  ·rename_i hk
   rw[List.getElem?_eq_none (by rw[HT.size L hx];omega),List.getElem?_eq_none (by rw[HT.size L h];omega)]
 |cons i p ih=>
  intro t t' v x v' o h hw hx hu
  simp only[walk]at hw
  obtain⟨⟨o1,t1⟩,h1,hw⟩:=Option.bind_eq_some_iff.1 hw
  obtain⟨⟨o2,t2⟩,h2,he⟩:=Option.map_eq_some_iff.1 hw
  obtain⟨rfl,rfl⟩:=Prod.mk.inj he
  cases v with
  |agg u vs=>
   simp only[V.upd]at hu
   obtain⟨y,hy,hu⟩:=Option.bind_eq_some_iff.1 hu
   obtain⟨z,hz,rfl⟩:=Option.map_eq_some_iff.1 hu
   obtain⟨hy',ho⟩:=h.step L h1 hy
   have hle:=h.step_lt L h1 hy
   obtain⟨r1,r2,r3⟩:=ih hy' h2 hx hz
   have hsy:y.fl.length=P.cellsOf t1:=HT.size L hy'
   have hsz:z.fl.length=y.fl.length:=by rw[HT.size L r1,hsy]
   have hht:HT P t (.agg u (vs.set i z)):=by
    cases h with
    |scal hk hv' ho=>simp[V.scal]at hv'
    |struct hk hl H=>
     refine .struct hk (by simp[hl]) fun j ft v hj1 hj2=> ?_
     rw[List.getElem?_set]at hj2
     split at hj2
     ·rename_i hji
      subst hji
      split at hj2
      ·obtain rfl:=Option.some.inj hj2
       simp only[SC,hk]at h1
       obtain⟨ft',hft,he⟩:=Option.map_eq_some_iff.1 h1
       obtain⟨_,rfl⟩:=Prod.mk.inj he
       rw[hft]at hj1;obtain rfl:=Option.some.inj hj1
       exact r1
      ·cases hj2
     ·exact H j ft v hj1 hj2
    |array hk hl H=>
     refine .array hk (by simp[hl]) fun v hv=> ?_
     simp only[SC,hk]at h1
     split at h1
     ·obtain⟨_,rfl⟩:=Prod.mk.inj (Option.some.inj h1)
      rcases List.mem_or_eq_of_mem_set hv with h'|rfl
      ·exact H v h'
      ·exact r1
     ·cases h1
   refine⟨hht,by simp only;omega,fun k=> ?_⟩
   simp only[V.fl]
   rw[Mc vs i y z hy hsz,←ho]
   by_cases hk:o1≤k∧k<o1+y.fl.length
   ·rw[if_pos hk,r3]
    by_cases hk2:o2≤k-o1∧k-o1<o2+P.cellsOf t2
    ·rw[if_pos hk2,if_pos (by omega)];congr 1;omega
    ·rw[if_neg hk2,if_neg (by omega)]
     have:=Jg vs i y hy (k-o1) (by omega)
     rw[←this,←ho];congr 1;omega
   ·rw[if_neg hk,if_neg (by omega)]
  |row e vs=>cases h;rename_i h3 _;simp[V.scal]at h3
  |_=>simp[V.upd]at hu
end
end AM
end
end Go.Proofs.YtphoocnlpnnkdaaGreatDoor
