/-
  Part of the proof of a statement about the given program: an abstract machine over its code, the simulation, its functions' equations, what they compute.
-/
import Derived.Laws.StructEq
import Derived.Test.YtphoocnlpnnkdaaGreatDoorMg17
set_option linter.unusedVariables false
set_option linter.unusedSimpArgs false
set_option linter.unusedSectionVars false
noncomputable section
namespace Go.Proofs.YtphoocnlpnnkdaaGreatDoor
section
namespace AM
open Go
section
variable {P:Program} {A:Ann} {g:G} {w:World}
def eqItems (d:Nat) (e:TypeId) (n:Nat) (xs ys:Array Value):List Nat→Sem Bool
 |[]=>pure true
 |i::is=>do
   let a ←part e xs (i*n)
   let b ←part e ys (i*n)
   let r ←Op.equalIn d e a b
   if(!r)=true then pure false else eqItems d e n xs ys is
theorem run_equalIn_array (d:Nat) (t e:TypeId) (len:Nat) (xs ys:Array Value) (ht:P.underlying t=some (.array len e)) (he:K P e≠ .bad):
 (Op.equalIn (d+1) t (.agg xs) (.agg ys)).run P w=(eqItems d e (P.cellsOf e) xs ys (List.range' 0 len)).run P w:=by
 simp only[Op.equalIn,Sem.run_bind,Ad ht,Result.andThen_ok,run_sizeOf he]
 rw[Std.Legacy.Range.forIn_eq_forIn_range']
 have e1:Std.Legacy.Range.size [0:len]=len:=by simp[Std.Legacy.Range.size]
 simp only[e1]
 generalize List.range' 0 len=is
 induction is generalizing w with
 |nil=>simp[eqItems]
 |cons i is ih=>
  simp only[List.forIn_cons,eqItems,Sem.run_bind,Sem.run_ite]
  generalize (part e xs (i*P.cellsOf e)).run P w=r1
  cases r1 with
  |ok a w1=>
   simp only[Result.andThen_ok]
   generalize (part e ys (i*P.cellsOf e)).run P w1=r2
   cases r2 with
   |ok b w2=>
    simp only[Result.andThen_ok]
    generalize (Op.equalIn d e a b).run P w2=r3
    cases r3 with
    |ok r w3=>
     cases r
     ·simp only[Result.andThen_ok,Bool.not_false,if_true,Sem.run_pure]
     ·simp only[Result.andThen_ok,Bool.not_true,Bool.false_eq_true,if_false,Sem.run_pure]
      exact ih
    |halt x w3=>simp[Result.andThen]
   |halt x w2=>simp[Result.andThen]
  |halt x w1=>simp[Result.andThen]
theorem Me {a:Bool} {y:V} {b:Bool} (h:KX (.bool a) y=some b):∃a',y= .bool a'∧b=(a==a'):=by
 cases y<;>simp[KX]at h
 exact⟨_,rfl,h.symm⟩
theorem QF {k:IntKind} {a:Int} {y:V} {b:Bool} (h:KX (.int k a) y=some b):∃a',y= .int k a'∧b=(a==a'):=by
 cases y<;>simp[KX]at h
 obtain⟨rfl,h⟩:=h
 exact⟨_,rfl,h.symm⟩
theorem QG {a:List UInt8} {y:V} {b:Bool} (h:KX (.str a) y=some b):∃a',y= .str a'∧b=(a==a'):=by
 cases y<;>simp[KX]at h
 exact⟨_,rfl,h.symm⟩
theorem NC {t:TypeId} {a:List V} {y:V} {b:Bool} (h:KX (.agg t a) y=some b):∃a',y= .agg t a'∧MB a a'=some b:=by
 cases y<;>simp[KX]at h
 obtain⟨rfl,h⟩:=h
 exact⟨_,rfl,h⟩
theorem U3 {xs ys:List V} {i:Nat} {b:Bool} (h:MB (xs.drop i) (ys.drop i)=some b) (hi:i<xs.length) (hl:xs.length=ys.length):
 ∃x y r,xs[i]?=some x∧ys[i]?=some y∧KX x y=some r∧(r=false→b=false)∧(r=true→MB (xs.drop (i+1)) (ys.drop (i+1))=some b):=by
 rw[List.drop_eq_getElem_cons (l:=xs) hi,List.drop_eq_getElem_cons (l:=ys) (i:=i) (by omega)]at h
 simp only[MB]at h
 obtain⟨r,h1,h2⟩:=Option.bind_eq_some_iff.1 h
 refine⟨_,_,r,List.getElem?_eq_getElem hi,List.getElem?_eq_getElem (by omega),h1,fun hr=> ?_,fun hr=> ?_⟩
 ·subst hr;simpa using h2.symm
 ·subst hr;simpa using h2
theorem HT.leafy_of {t:TypeId} {v:V} (h:HT P t v) (h1:∀u fs,K P t≠ .struct u fs) (h2:∀u n e,K P t≠ .array u n e):v.leafy=true:=by
 cases h with
 |scal hk hv ho=>cases v<;>simp[V.scal]at hv<;>rfl
 |undef=>rfl
 |undefS=>rfl
 |lst=>rfl
 |win=>rfl
 |struct hk=>exact(h1 _ _ hk).elim
 |array hk=>exact(h2 _ _ _ hk).elim
theorem AR.leaf' {v:V} {c:Value} (h:AR P g w v c) (hv:v.leafy=true):LR P g w v c:=by
 cases h with
 |leaf _ h=>exact h
 |agg=>simp[V.leafy]at hv
theorem AR.agg' {u:TypeId} {fs:List V} {c:Value} (h:AR P g w (.agg u fs) c):∃cs,c= .agg (List.toArray cs)∧LRs P g w (BD fs) cs:=by
 cases h with
 |leaf hv _=>simp[V.leafy]at hv
 |agg ht hn h=>exact⟨_,rfl,hn,h⟩
theorem AQ1 (L:Lay P) (d:Nat):∀{t:TypeId} {x y:V} {cx cy:Value} {b:Bool},ADq P d t=true→HT P t x→HT P t y→AR P g w x cx→AR P g w y cy→KX x y=some b→
 ∀D,d≤D→(Op.equalIn D t cx cy).run P w= .ok b w:=by
 induction d with
 |zero=>intro t x y cx cy b h;simp[ADq]at h
 |succ d ih=>
  intro t x y cx cy b hok htx hty hx hy hv D hD
  obtain⟨D,rfl⟩:∃D',D=D'+1:=⟨D-1,by omega⟩
  have hD:d≤D:=by omega
  simp only[ADq]at hok
  have scal:∀{x:V},HT P t x→K P t= .scal→x≠ .undef→Bd P t x=true:=by
   intro x h hk hu
   cases h with
   |scal _ _ ho=>exact ho
   |undef=>exact(hu rfl).elim
   |undefS=>exact(hu rfl).elim
   |lst hk'=>rw[hk]at hk';cases hk'
   |win hk'=>rw[hk]at hk';cases hk'
   |struct hk'=>rw[hk]at hk';cases hk'
   |array hk'=>rw[hk]at hk';cases hk'
  have hlt:=Fh htx.K_ne
  have hKs:∀{D:TypeDesc},P.underlying t=some D→K P t=(match some D with
   |some (.slice e)=> .slice e
   |some (.struct fs)=> .struct (P.underlyingId t) (fs.toList.map (·.type))
   |some (.array n e)=> .array (P.underlyingId t) n e
   |none=> .bad
   |some .invalid=> .bad
   |some (.tuple _)=> .bad
   |some (.named _ _)=> .bad
   |some _=> .scal):=by
   intro D hD
   unfold K
   have e:Nat.blt t P.types.size=true:=Nat.ble_eq_true_of_le hlt
   rw[if_neg (by rw[e];simp),hD]
   cases D<;>rfl
  have hux:x≠ .undef:=by rintro rfl;cases y<;>simp[KX]at hv
  split at hok
  ·rename_i hu
   have hk:=hKs hu
   simp only at hk
   have h1:=scal htx hk hux
   simp only[Bd,hu]at h1
   split at h1<;>first|cases h1|skip
   obtain⟨y',rfl,rfl⟩:=Me hv
   cases hx.leaf' rfl;cases hy.leaf' rfl
   exact run_equalIn_bool' w D t _ _ hu
  ·rename_i k hu
   have hk:=hKs hu
   simp only at hk
   have h1:=scal htx hk hux
   simp only[Bd,hu]at h1
   split at h1<;>first|cases h1|skip
   obtain⟨y',rfl,rfl⟩:=QF hv
   cases hx.leaf' rfl;cases hy.leaf' rfl
   exact run_equalIn_int w D t _ _ _ _ hu
  ·rename_i hu
   have hk:=hKs hu
   simp only at hk
   have h1:=scal htx hk hux
   simp only[Bd,hu]at h1
   split at h1<;>first|cases h1|skip
   obtain⟨y',rfl,rfl⟩:=QG hv
   cases hx.leaf' rfl;cases hy.leaf' rfl
   rw[run_equalIn_string w D t _ _ hu,toList_eq,toList_eq]
  ·rename_i F hu
   have hk:=hKs hu
   simp only at hk
   simp only[Bool.and_eq_true,Bool.not_eq_true',List.all_eq_true,bne_iff_ne,ne_eq]at hok
   obtain⟨hst,hok⟩:=hok
   have hfo:P.fieldsOf t=F:=by simp[Program.fieldsOf,hu]
   cases htx with
   |scal hk'=>rw[hk]at hk';cases hk'
   |undef hk'=>rw[hk]at hk';cases hk'
   |undefS hk'=>rw[hk]at hk';cases hk'
   |lst hk'=>rw[hk]at hk';cases hk'
   |win hk'=>rw[hk]at hk';cases hk'
   |array hk'=>rw[hk]at hk';cases hk'
   |struct hk' hl hH=>
    rename_i u fs vs
    have htx:=HT.struct hk' hl hH
    obtain⟨ys,rfl,hvv⟩:=NC hv
    obtain⟨xs',rfl,hX⟩:=hx.agg'
    obtain⟨ys',rfl,hY⟩:=hy.agg'
    rw[hk]at hk'
    cases hk'
    have hly:ys.length=(F.toList.map (·.type)).length:=by
     cases hty with
     |scal hk' hv' _=>simp[V.scal]at hv'
     |array hk'=>rw[hk]at hk';cases hk'
     |struct hk' hl' _=>rw[hk]at hk';cases hk';exact hl'
    rw[run_equalIn_struct w D t _ _ (by rw[hfo];exact hu) hst,hfo]
    have key:∀(n i:Nat),n=F.toList.length-i→i≤F.toList.length→MB (vs.drop i) (ys.drop i)=some b→(Op.eqFields D xs'.toArray ys'.toArray (F.toList.drop i)).run P w= .ok b w:=by
     intro n
     induction n with
     |zero=>
      intro i hn hi he
      have:i=F.toList.length:=by omega
      simp only[List.length_map]at hl hly
      rw[show F.toList.drop i=[]from List.drop_eq_nil_of_le (by omega)]
      rw[show vs.drop i=[]from List.drop_eq_nil_of_le (by omega),show ys.drop i=[]from List.drop_eq_nil_of_le (by omega)]at he
      simp only[MB,Option.some.injEq]at he
      subst he
      rfl
     |succ n ihn=>
      intro i hn hi he
      have hif:i<F.toList.length:=by omega
      simp only[List.length_map]at hl hly
      obtain⟨x1,y1,r,hx1,hy1,hr,hr0,hr1⟩:=U3 he (by omega) (by omega)
      rw[List.drop_eq_getElem_cons hif]
      have hfm:=List.getElem_mem hif
      have hfd:F.toList[i]?=some F.toList[i]:=List.getElem?_eq_getElem hif
      have hof:=L.offs t F hu hlt i _ (by rw[←Array.getElem?_toList];exact hfd)
      have hstp:SC P t i=some (F.toList[i].offset,F.toList[i].type):=by
       simp only[SC,hk]
       rw[List.getElem?_map,hfd,hof,←List.map_take,List.map_map];rfl
      obtain⟨t1,c1,e1,a1⟩:=Ig (w:=w) L htx hX hstp hx1
      obtain⟨t2,c2,e2,a2⟩:=Ig (w:=w) L hty hY hstp hy1
      have e3:=ih (hok _ hfm).2 t1 t2 a1 a2 hr D hD
      simp only[Op.eqFields]
      rw[if_pos (by simpa using(hok _ hfm).1)]
      simp only[Sem.run_bind,e1,e2,e3,Result.andThen_ok,Sem.run_ite]
      cases r
      ·rw[if_pos (by rfl),hr0 rfl];rfl
      ·rw[if_neg (by simp)]
       exact ihn (i+1) (by omega) (by omega) (hr1 rfl)
    exact key F.toList.length 0 (by omega) (by omega) (by simpa using hvv)
  ·rename_i len e hu
   have hk:=hKs hu
   simp only at hk
   cases htx with
   |scal hk'=>rw[hk]at hk';cases hk'
   |undef hk'=>rw[hk]at hk';cases hk'
   |undefS hk'=>rw[hk]at hk';cases hk'
   |lst hk'=>rw[hk]at hk';cases hk'
   |win hk'=>rw[hk]at hk';cases hk'
   |struct hk'=>rw[hk]at hk';cases hk'
   |array hk' hl hH=>
    rename_i u n e' vs
    have htx:=HT.array hk' hl hH
    obtain⟨ys,rfl,hvv⟩:=NC hv
    obtain⟨xs',rfl,hX⟩:=hx.agg'
    obtain⟨ys',rfl,hY⟩:=hy.agg'
    rw[hk]at hk'
    cases hk'
    have hly:ys.length=len:=by
     cases hty with
     |scal hk' hv' _=>simp[V.scal]at hv'
     |struct hk'=>rw[hk]at hk';cases hk'
     |array hk' hl' _=>rw[hk]at hk';cases hk';exact hl'
    rw[run_equalIn_array D t e len _ _ hu (L.array _ _ _ _ hk).2]
    have key:∀(n i:Nat),i+n=len→MB (vs.drop i) (ys.drop i)=some b→(eqItems D e (P.cellsOf e) xs'.toArray ys'.toArray (List.range' i n)).run P w= .ok b w:=by
     intro n
     induction n with
     |zero=>
      intro i hn he
      rw[show vs.drop i=[]from List.drop_eq_nil_of_le (by omega),show ys.drop i=[]from List.drop_eq_nil_of_le (by omega)]at he
      simp only[MB,Option.some.injEq]at he
      subst he
      rfl
     |succ n ihn=>
      intro i hn he
      obtain⟨x1,y1,r,hx1,hy1,hr,hr0,hr1⟩:=U3 he (by omega) (by omega)
      have hstp:SC P t i=some (i*P.cellsOf e,e):=by
       simp only[SC,hk]
       rw[if_pos (by omega)]
      obtain⟨t1,c1,e1,a1⟩:=Ig (w:=w) L htx hX hstp hx1
      obtain⟨t2,c2,e2,a2⟩:=Ig (w:=w) L hty hY hstp hy1
      have e3:=ih hok t1 t2 a1 a2 hr D hD
      simp only[List.range'_succ,eqItems,Sem.run_bind,e1,e2,e3,Result.andThen_ok,Sem.run_ite]
      cases r
      ·rw[if_pos (by rfl),hr0 rfl];rfl
      ·rw[if_neg (by simp)]
       exact ihn (i+1) (by omega) (hr1 rfl)
    exact key len 0 (by omega) (by simpa using hvv)
  ·cases hok
theorem Fp {t:TypeId} {v:V} {c:Value} (h:Bc P t v=true) (hv:VR P g w v c):HT P t v∧AR P g w v c:=by
 have hA:AR P g w v c:=by
  cases hv with
  |val h=>exact h
  |dead=>unfold Bc at h;split at h<;>first|cases h|skip
         unfold Bd at h;split at h<;>cases h
  |tup=>unfold Bc at h;split at h<;>first|cases h|skip
        unfold Bd at h;split at h<;>cases h
 refine⟨?_,hA⟩
 unfold Bc at h
 split at h
 ·rename_i hk
  refine .scal hk ?_ h
  unfold Bd at h
  split at h<;>first|cases h|skip
  all_goals (split at h<;>first|rfl|cases h)
 ·rename_i e hk
  split at h<;>first|cases h|skip
  ·simp only[beq_iff_eq]at h;subst h;exact .lst hk
  ·simp only[beq_iff_eq]at h;subst h;exact .win hk
 ·rename_i u fs hk
  split at h<;>first|cases h|skip
  simp only[beq_iff_eq]at h;subst h
  cases hA with
  |leaf hv _=>simp[V.leafy]at hv
  |agg ht _ _=>exact ht.of_tag (.inl ⟨_,hk⟩)
 ·rename_i u n e hk
  split at h<;>first|cases h|skip
  simp only[beq_iff_eq]at h;subst h
  cases hA with
  |leaf hv _=>simp[V.leafy]at hv
  |agg ht _ _=>exact ht.of_tag (.inr ⟨_,_,hk⟩)
 ·cases h
theorem U4 (w:World) {t e:TypeId} (hu:P.underlying t=some (.slice e)) (a:Option Addr) (n cap:Nat):(Op.equal t (.slice a n cap) (.slice none 0 0)).run P w= .ok a.isNone w:=by
 unfold Op.equal
 rw[show Op.maxDepth=(Op.maxDepth-1)+1 from rfl]
 unfold Op.equalIn
 rw[Sem.run_bind,Ad hu,Result.andThen_ok]
 cases a<;>rfl
theorem ZW {x:V} {cx:Value} {b:Bool} (h:AKM x=some b) (hx:VR P g w x cx):∃a n cap,cx= .slice a n cap∧a.isNone=b:=by
 unfold AKM at h
 split at h
 ·obtain rfl:=Option.some.inj h
  cases hx.leaf' rfl (by simp)with
  |nil=>exact⟨none,0,0,rfl,rfl⟩
  |emp _ _ _ _ hf=>exact(hf rfl).elim
  |lst _ _ _ _ _ _ _ hf=>exact(hf rfl).elim
 ·obtain rfl:=Option.some.inj h
  cases hx.leaf' rfl (by simp)with
  |emp _ _ a cap _ hs=>exact⟨a,0,cap,rfl,by cases a with
   |none=>cases (hs rfl).1
   |some a=>rfl⟩
  |lst=>exact⟨_,_,_,rfl,rfl⟩
 ·obtain rfl:=Option.some.inj h
  cases hx.leaf' rfl (by simp)with
  |lst=>exact⟨_,_,_,rfl,rfl⟩
 ·cases h
theorem AEd {op:BinOp} {t e:TypeId} {x y v:V} {cx cy:Value} {xo yo:Operand} (hu:P.underlying t=some (.slice e)) (h:KY op x y=some v) (hx:VR P g w x cx) (hy:VR P g w y cy):
 ∃c,(do eqGuard op t xo yo cx cy;binOp op t cx cy:Sem Value).run P w= .ok c w∧VR P g w v c∧v.noOwn=true:=by
 unfold KY at h
 split at h
 case h_2=>cases h
 have hc:cy= .slice none 0 0:=by
  cases hy.leaf' rfl (by simp)with
  |nil=>rfl
  |emp _ _ _ _ hf=>exact(hf rfl).elim
  |lst _ _ _ _ _ _ _ hf=>exact(hf rfl).elim
 subst hc
 split at h
 ·obtain⟨b,hb,rfl⟩:=Option.map_eq_some_iff.1 h
  obtain⟨a,n,cap,rfl,rfl⟩:=ZW hb hx
  refine⟨.bool a.isNone,?_,.of_bool _,rfl⟩
  rw[Sem.run_bind,EY _ _ _ _ _ _ (by simp) (by simp),Result.andThen_ok]
  simp[binOp,U4 w hu]
 ·obtain⟨b,hb,rfl⟩:=Option.map_eq_some_iff.1 h
  obtain⟨a,n,cap,rfl,rfl⟩:=ZW hb hx
  refine⟨.bool (!a.isNone),?_,.of_bool _,rfl⟩
  rw[Sem.run_bind,EY _ _ _ _ _ _ (by simp) (by simp),Result.andThen_ok]
  simp[binOp,U4 w hu]
 ·cases h
theorem AJa (L:Lay P) {op:BinOp} {t:TypeId} {x y v:V} {cx cy:Value} {xo yo:Operand} (h:AOH P t op x y=some v) (hx:VR P g w x cx) (hy:VR P g w y cy):
 ∃c,(do eqGuard op t xo yo cx cy;binOp op t cx cy:Sem Value).run P w= .ok c w∧VR P g w v c∧v.noOwn=true:=by
 unfold AOH at h
 split at h
 ·rename_i e hu
  exact AEd hu h hx hy
 split at h
 case isFalse=>cases h
 rename_i hc
 simp only[Bool.and_eq_true,Bool.not_eq_true']at hc
 obtain⟨⟨⟨h1,h2⟩,h3⟩,h4⟩:=hc
 obtain⟨htx,hax⟩:=Fp h3 hx
 obtain⟨hty,hay⟩:=Fp h4 hy
 have hg:(KX x y).isSome=true→(eqGuard op t xo yo cx cy).run P w= .ok () w:=by
  intro hs
  obtain⟨b,hb⟩:=Option.isSome_iff_exists.1 hs
  cases x with
  |bool a=>obtain⟨_,rfl,_⟩:=Me hb;cases hax.leaf' rfl;exact EY _ _ _ _ _ _ (by simp) (by simp)
  |int k a=>obtain⟨_,rfl,_⟩:=QF hb;cases hax.leaf' rfl;exact EY _ _ _ _ _ _ (by simp) (by simp)
  |str a=>obtain⟨_,rfl,_⟩:=QG hb;cases hax.leaf' rfl;exact EY _ _ _ _ _ _ (by simp) (by simp)
  |agg u a=>
   obtain⟨_,rfl,_⟩:=NC hb
   obtain⟨xs',rfl,hX⟩:=hax.agg'
   obtain⟨ys',rfl,hY⟩:=hay.agg'
   exact run_eqGuard_agg w op t xo yo _ _ h2
  |_=>simp[KX]at hb
 have he:∀b,KX x y=some b→(Op.equal t cx cy).run P w= .ok b w:=fun b hb=>AQ1 L 12 h1 htx hty hax hay hb _ (by decide)
 rw[Sem.run_bind]
 split at h
 ·obtain⟨b,hb,rfl⟩:=Option.map_eq_some_iff.1 h
  refine⟨.bool b,?_,.of_bool _,rfl⟩
  rw[hg (by rw[hb];rfl),Result.andThen_ok]
  have:=he b hb
  cases x with
  |bool a=>obtain⟨_,rfl,rfl⟩:=Me hb;cases hax.leaf' rfl;cases hay.leaf' rfl;simp[binOp,this]
  |int k a=>
   obtain⟨_,rfl,rfl⟩:=QF hb;cases hax.leaf' rfl;cases hay.leaf' rfl;simp[binOp,Op.intCmp]
  |str a=>
   obtain⟨_,rfl,rfl⟩:=QG hb
   cases hax.leaf' rfl;cases hay.leaf' rfl;simp[binOp,Op.stringOp,toList_eq,beq_toListBytes]
  |agg u a=>
   obtain⟨_,rfl,_⟩:=NC hb
   obtain⟨xs',rfl,hX⟩:=hax.agg'
   obtain⟨ys',rfl,hY⟩:=hay.agg'
   simp[binOp,this]
  |_=>simp[KX]at hb
 ·obtain⟨b,hb,rfl⟩:=Option.map_eq_some_iff.1 h
  refine⟨.bool (!b),?_,.of_bool _,rfl⟩
  rw[hg (by rw[hb];rfl),Result.andThen_ok]
  have:=he b hb
  cases x with
  |bool a=>obtain⟨_,rfl,rfl⟩:=Me hb;cases hax.leaf' rfl;cases hay.leaf' rfl;simp[binOp,this]
  |int k a=>
   obtain⟨_,rfl,rfl⟩:=QF hb;cases hax.leaf' rfl;cases hay.leaf' rfl;simp[binOp,Op.intCmp,bne]
  |str a=>
   obtain⟨_,rfl,rfl⟩:=QG hb
   cases hax.leaf' rfl;cases hay.leaf' rfl;simp[binOp,Op.stringOp,toList_eq,beq_toListBytes,bne]
  |agg u a=>
   obtain⟨_,rfl,_⟩:=NC hb
   obtain⟨xs',rfl,hX⟩:=hax.agg'
   obtain⟨ys',rfl,hY⟩:=hay.agg'
   simp[binOp,this]
  |_=>simp[KX]at hb
 ·cases h
end
end AM
end
end Go.Proofs.YtphoocnlpnnkdaaGreatDoor
