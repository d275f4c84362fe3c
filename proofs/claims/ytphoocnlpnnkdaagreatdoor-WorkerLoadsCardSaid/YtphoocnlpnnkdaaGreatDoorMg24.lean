/-
  Part of the proof of a statement about the given program: an abstract machine over its code, the simulation, its functions' equations, what they compute.
-/
import Derived.Carry
import Derived.Test.YtphoocnlpnnkdaaGreatDoorMg23
set_option linter.unusedVariables false
set_option linter.unusedSimpArgs false
set_option linter.unusedSectionVars false
noncomputable section
namespace Go.Proofs.YtphoocnlpnnkdaaGreatDoor
section
namespace AM
open Go
def KW (f:TypeId→V→Bool):List TypeId→List V→Bool
 |[],[]=>true
 |t::ts,x::xs=>f t x&&KW f ts xs
 |_,_=>false
def okV (P:Program):Nat→TypeId→V→Bool
 |0,_,_=>false
 |n+1,t,v=>match K P t with
  | .scal=>match P.underlying t with
    |some .bool=>match v with| .bool _=>true|_=>false
    |some (.int k)=>match v with| .int k' m=>decide (k'=k)&&(Lit.int k m).wf|_=>false
    |some .string=>match v with| .str s=>decide (s.length≤maxLen)|_=>false
    |_=>false
  | .slice e=>match v with
    | .lst e' .sh xs=>decide (e'=e)&&decide (xs.length≤maxLen)&&xs.all (okV P n e)
    |_=>false
  | .struct u fs=>match v with| .agg u' xs=>decide (u'=u)&&KW (okV P n) fs xs|_=>false
  | .array u m e=>match v with| .agg u' xs=>decide (u'=u)&&decide (xs.length=m)&&xs.all (okV P n e)|_=>false
  | .bad=>false
section
variable {P:Program} {A:Ann} {w:World} {H:Type} {enc:TypeId×Value→H} {base:Nat} {spare:Nat→Bool} {held:Bool}
theorem Zt {f:TypeId→V→Bool} {g:TypeId→DataW H→V}:∀{ts:List TypeId} {ds:List (DataW H)},ts.length=ds.length→(∀(i:Nat) (t:TypeId) (d:DataW H),ts[i]?=some t→ds[i]?=some d→f t (g t d)=true)→KW f ts (List.zipWith g ts ds)=true
 |[],[],_,_=>rfl
 |t::ts,d::ds,hl,h=>by
  simp only[List.zipWith_cons_cons,KW,Bool.and_eq_true]
  exact⟨h 0 t d rfl rfl,Zt (by simpa using hl) fun i t d h1 h2=>h (i+1) t d h1 h2⟩
 |[],_::_,hl,_=>by simp at hl
 |_::_,[],hl,_=>by simp at hl
theorem AM7 (L:Lay P):∀(n fuel:Nat) (t:TypeId) (cs:List Value) (d:DataW H) (ps:List MemPlace),FZ P n t=true→DataW.trod enc P w base spare held fuel t cs=some (d,ps)→okV P n t (LK P n t d)=true:=by
 intro n
 induction n with
 |zero=>intro fuel t cs d ps h;simp[FZ]at h
 |succ n ih=>
  intro fuel t cs d ps hg h
  simp only[FZ]at hg
  split at hg
  ·rename_i hk
   simp only[LK,okV,hk]
   split at hg
   ·rename_i hu
    obtain⟨b,_,hx⟩:=DataW.trod_bool hu h
    cases hx;simp only[hu]
   ·rename_i k hu
    obtain⟨m,_,hx,hw⟩:=DataW.trod_int hu h
    cases hx;simp only[hu,hw,decide_true,Bool.and_self]
   ·rename_i hu
    obtain⟨s,_,hx,hs⟩:=DataW.trod_string hu h
    cases hx;simp only[hu]
    rw[Array.length_toList];exact decide_eq_true hs
   ·cases hg
  ·rename_i e hk
   simp only[LK,okV,hk]
   rcases DataW.trod_slice (Df hk) h with⟨_,hx⟩|⟨a,len,cap,elems,rest,m,_,_,hx,hb,hlc,hcm,hel,hall,_⟩
   ·cases hx;simp
   ·cases hx
    simp only[decide_true,Bool.true_and,Bool.and_eq_true,decide_eq_true_eq,List.length_map,List.all_eq_true]
    refine⟨by omega,fun x hx=> ?_⟩
    simp only[List.map_map,List.mem_map]at hx
    obtain⟨y,hy,rfl⟩:=hx
    obtain⟨i,hi,rfl⟩:=List.mem_iff_getElem.1 hy
    have:=hall i (by omega)
    rw[List.getElem?_eq_getElem hi]at this
    obtain⟨ci,_,h2⟩:=Option.bind_eq_some_iff.1 this
    exact ih m e ci _ _ hg h2
  ·rename_i u fs hk
   simp only[LK,okV,hk]
   obtain⟨F,hF,rfl,rfl⟩:=FN hk
   obtain⟨xs,m,rfl,hx,hcl,hxl,hall⟩:=DataW.trod_struct hF h
   cases hx
   simp only[decide_true,Bool.true_and]
   refine Zt (by simp[hxl]) fun i t d h1 h2=> ?_
   rw[List.getElem?_map,Option.map_eq_some_iff]at h1 h2
   obtain⟨f,hf,rfl⟩:=h1
   obtain⟨x,hx,rfl⟩:=h2
   rw[Array.getElem?_toList]at hf
   have:=hall i f hf
   rw[hx]at this
   have hgf:FZ P n f.type=true:=List.all_eq_true.1 hg _ (List.mem_map.2 ⟨f,Array.mem_toList_iff.2 (Array.mem_of_getElem? hf),rfl⟩)
   exact ih m f.type _ x.1 x.2 hgf this
  ·rename_i u k e hk
   simp only[LK,okV,hk]
   obtain⟨hA,rfl⟩:=FM hk
   obtain⟨xs,m,rfl,hx,hcl,hxl,hall⟩:=DataW.trod_array hA h
   cases hx
   simp only[decide_true,Bool.true_and,Bool.and_eq_true,decide_eq_true_eq,List.length_map,List.all_eq_true]
   refine⟨hxl,fun x hx=> ?_⟩
   simp only[List.map_map,List.mem_map]at hx
   obtain⟨y,hy,rfl⟩:=hx
   obtain⟨i,hi,rfl⟩:=List.mem_iff_getElem.1 hy
   have:=hall i (by omega)
   rw[List.getElem?_eq_getElem hi]at this
   exact ih m e _ _ _ hg this
  ·cases hg
theorem AJ7:∀(n:Nat) (t:TypeId) (v:V),okV P n t v=true→v.noOwn=true:=by
 intro n
 induction n with
 |zero=>intro t v h;simp[okV]at h
 |succ n ih=>
  intro t v h
  have all:∀{e:TypeId} {xs:List V},xs.all (okV P n e)=true→BG xs=true:=by
   intro e xs hx
   induction xs with
   |nil=>rfl
   |cons x xs ihx=>
    simp only[List.all_cons,Bool.and_eq_true]at hx
    simp only[BG,ih e x hx.1,ihx hx.2,Bool.and_self]
  have alls:∀{fs:List TypeId} {xs:List V},KW (okV P n) fs xs=true→BG xs=true:=by
   intro fs
   induction fs with
   |nil=>intro xs hx;cases xs with|nil=>rfl|cons _ _=>simp[KW]at hx
   |cons f fs ihx=>
    intro xs hx
    cases xs with
    |nil=>simp[KW]at hx
    |cons x xs=>
     simp only[KW,Bool.and_eq_true]at hx
     simp only[BG,ih f x hx.1,ihx hx.2,Bool.and_self]
  simp only[okV]at h
  split at h
  ·split at h<;>(first|(split at h<;>first|rfl|cases h)|cases h)
  ·split at h<;>first|rfl|cases h
  ·split at h
   ·simp only[Bool.and_eq_true]at h;simp only[V.noOwn];exact alls h.2
   ·cases h
  ·split at h
   ·simp only[Bool.and_eq_true]at h;simp only[V.noOwn];exact all h.2
   ·cases h
  ·cases h
theorem TF {n:Nat} {t:TypeId} {v:Value} (hk:(∃e,K P t= .slice e)∨K P t= .scal) (hg:FZ P (n+1) t=true) (h:Value.okWide P w .any base t v):v.cells= #[v]:=by
 cases v with
 |agg cs=>
  exfalso
  rcases hk with⟨e,hk⟩|hk
  ·simp[Value.okWide,Df hk,Cell.okWide,Cell.ok]at h
  ·simp only[FZ,hk]at hg
   split at hg<;>rename_i hu<;>first|(simp[Value.okWide,hu,Cell.okWide,Cell.ok]at h;done)|cases hg
 |_=>rfl
theorem AM8 (L:Lay P) {n:Nat} {t:TypeId} {v:Value} {d:DataW H} {p:List MemPlace} (hg:FZ P (n+1) t=true) (hv:Value.okWide P w .any base t v) (h:DataW.Trod enc P w base spare held t v d p):
 VR P (G.start w) w (LK P (n+1) t d) v∧okV P (n+1) t (LK P (n+1) t d)=true:=by
 have h':=h
 obtain⟨fuel,hf⟩:=h
 have ok:=AM7 L (n+1) fuel t _ d p hg hf
 refine⟨?_,ok⟩
 have agg:∀{u:TypeId} {xs:List V},LK P (n+1) t d= .agg u xs→(∃cs,v= .agg cs)→VR P (G.start w) w (LK P (n+1) t d) v:=by
  rintro u xs e ⟨cs,rfl⟩
  rw[e];exact AT1 L hg e h'
 have okn:okV P (n+1) t (LK P (n+1) t d)=true:=ok
 simp only[okV]at okn
 split at okn
 ·rename_i hk
  refine AOF L hg ?_ (TF (.inr hk) hg hv) h'
  split at okn<;>(first|(split at okn<;>first|(rename_i e;rw[e];rfl)|cases okn)|cases okn)
 ·rename_i e hk
  refine AOF L hg ?_ (TF (.inl ⟨e,hk⟩) hg hv) h'
  split at okn<;>first|(rename_i e;rw[e];rfl)|cases okn
 ·rename_i u fs hk
  split at okn
  ·rename_i e
   obtain⟨F,hF,_,_⟩:=FN hk
   simp only[Value.okWide,hF]at hv
   exact agg e ⟨_,hv.choose_spec.1⟩
  ·cases okn
 ·rename_i u k e hk
  split at okn
  ·rename_i e
   obtain⟨hA,_⟩:=FM hk
   simp only[Value.okWide,hA]at hv
   exact agg e ⟨_,hv.choose_spec.1⟩
  ·cases okn
 ·cases okn
theorem Zu (L:Lay P):∀{ts:List TypeId} {vs:List Value} {ds:List (DataW H)} {ps:List MemPlace},ts.all (FZ P 8)=true→DataW.TrodAll enc P w base spare held ts vs ds ps→
 (∀(j:Nat) (t:TypeId) (v:Value),ts[j]?=some t→vs[j]?=some v→Value.okWide P w .any base t v)→
 ∃us:List V,KW (okV P 8) ts us=true∧us.length=vs.length∧(∀(i:Nat) (x:V) (c:Value),us[i]?=some x→vs[i]?=some c→VR P (G.start w) w x c)∧BG us=true
 |[],[],[],_,_,_,_=>⟨[],rfl,rfl,fun _ _ _ h=>by simp at h,rfl⟩
 |t::ts,v::vs,d::ds,_,hg,⟨p,q,h1,h2,_⟩,hv=>by
  simp only[List.all_cons,Bool.and_eq_true]at hg
  obtain⟨us,a1,a2,a3,a4⟩:=Zu L hg.2 h2 fun j t v x y=>hv (j+1) t v x y
  obtain⟨b1,b2⟩:=AM8 (n:=7) L hg.1 (hv 0 t v rfl rfl) h1
  refine⟨LK P 8 t d::us,by simp only[KW,b2,a1,Bool.and_self],by simp[a2],fun i x c hx hc=> ?_,by simp only[BG,AJ7 8 t _ b2,a4,Bool.and_self]⟩
  cases i with
  |zero=>cases hx;cases hc;exact b1
  |succ i=>exact a3 i x c hx hc
theorem VJ (hl:laidOutB P=true) {W W':World} (hb:Go.RowKit.Below W.heap.size W W'):∀{ts:List TypeId} {vs:List Value} {ds:List (DataW H)} {ps:List MemPlace},(ts.all fun t=>P.readableRec t&&Nat.blt t P.types.size)=true→
 DataW.TrodAll enc P W 0 (fun _=>true) true ts vs ds ps→(∀x∈ps,x.block<W.heap.size)→DataW.TrodAll enc P W' 0 (fun b=>decide (b<W.heap.size)) true ts vs ds ps
 |[],[],[],_,_,h,_=>h
 |t::ts,v::vs,d::ds,_,hr,⟨p,q,h1,h2,e⟩,hs=>by
  simp only[List.all_cons,Bool.and_eq_true]at hr
  exact⟨p,q,Go.RowKit.Below.trod hl hr.1.1 (Nat.lt_of_succ_le (Nat.le_of_ble_eq_true hr.1.2)) h1 hb fun x hx=>hs x (by rw[e];exact List.mem_append_left _ hx),
   VJ hl hb hr.2 h2 fun x hx=>hs x (by rw[e];exact List.mem_append_right _ hx),e⟩
end
end AM
end
end Go.Proofs.YtphoocnlpnnkdaaGreatDoor
