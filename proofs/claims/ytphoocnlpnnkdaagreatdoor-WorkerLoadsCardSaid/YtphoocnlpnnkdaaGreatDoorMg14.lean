/-
  Part of the proof of a statement about the given program: an abstract machine over its code, the simulation, its functions' equations, what they compute.
-/
import Derived.Calls
import Derived.Laws.Sem
import Derived.Orders
import Derived.Test.YtphoocnlpnnkdaaGreatDoorMg3
set_option linter.unusedVariables false
set_option linter.unusedSimpArgs false
set_option linter.unusedSectionVars false
noncomputable section
namespace Go.Proofs.YtphoocnlpnnkdaaGreatDoor
section
namespace AM
open Go
mutual
def V.fl:V→List V
 | .agg _ fs=>BD fs
 | .row _ fs=>BD fs
 |v=>[v]
 termination_by structural x=>x
def BD:List V→List V
 |[]=>[]
 |x::xs=>x.fl++BD xs
 termination_by structural x=>x
end
theorem Dj (a b:List V):BD (a++b)=BD a++BD b:=by
 induction a with
 |nil=>rfl
 |cons x a ih=>simp[BD,ih]
inductive HT (P:Program):TypeId→V→Prop where
 |scal {t:TypeId} {v:V}:K P t= .scal→v.scal=true→Bd P t v=true→HT P t v
 |undef {t:TypeId}:K P t= .scal→HT P t .undef
 |undefS {t e:TypeId}:K P t= .slice e→HT P t .undef
 |lst {t e:TypeId} {f:Fl} {xs:List V}:K P t= .slice e→HT P t (.lst e f xs)
 |win {t e:TypeId} {id:Nat} {p:List Nat} {off len:Nat}:K P t= .slice e→HT P t (.win id p off len e)
 |struct {t u:TypeId} {fs:List TypeId} {vs:List V}:K P t= .struct u fs→vs.length=fs.length→
  (∀(i:Nat) (ft:TypeId) (v:V),fs[i]?=some ft→vs[i]?=some v→HT P ft v)→HT P t (.agg u vs)
 |array {t u:TypeId} {n:Nat} {e:TypeId} {vs:List V}:K P t= .array u n e→vs.length=n→(∀v∈vs,HT P e v)→HT P t (.agg u vs)
def AJU:V→Value→Bool
 | .bool a,.bool b=>a==b
 | .int k a,.int k' b=>decide (k=k')&&decide (a=b)
 | .str [],.string s=>s.data.toList.isEmpty
 | .nilp,.pointer none=>true
 | .lst _ .nil [],.slice none 0 0=>true
 | .nilf,.nilFunc=>true
 | .nili,.nilIface=>true
 | .undef,c=>match c with
   | .agg _=>false
   | .tuple _=>false
   |_=>true
 |_,_=>false
def Ll:List V→List Value→Bool
 |[],[]=>true
 |x::xs,c::cs=>AJU x c&&Ll xs cs
 |_,_=>false
structure Lay (P:Program):Prop where
 scal:∀t,K P t= .scal→P.cellsOf t=1
 slice:∀t e,K P t= .slice e→P.cellsOf t=1∧K P e≠ .bad
 items:∀t e,K P t= .slice e→0<P.cellsOf e∧(zero P e).clean=true∧(∀i,P.info? e=some i→i.bytes≤65536)∧P.cellsOf e≤256
 struct:∀t u fs,K P t= .struct u fs→P.cellsOf t=(fs.map P.cellsOf).sum
 array:∀t u n e,K P t= .array u n e→P.cellsOf t=n*P.cellsOf e∧K P e≠ .bad
 fields:∀t u fs,K P t= .struct u fs→∀ft∈fs,K P ft≠ .bad
 zero:∀t,K P t≠ .bad→∃i z,P.info? t=some i∧i.zero=some z∧HT P t (zero P t)∧Ll (zero P t).fl z.cells.toList=true
 offs:∀t F,P.underlying t=some (.struct F)→t<P.types.size→∀i f,F[i]?=some f→f.offset=((F.toList.take i).map fun g=>P.cellsOf g.type).sum
theorem Aw {P:Program} (L:Lay P) (xs:List V) (e:TypeId) (h:∀x∈xs,x.fl.length=P.cellsOf e):(BD xs).length=xs.length*P.cellsOf e:=by
 induction xs with
 |nil=>simp[BD]
 |cons x xs ih=>
  simp only[BD,List.length_append,List.length_cons]
  rw[h x (by simp),ih fun y hy=>h y (by simp[hy]),Nat.succ_mul,Nat.add_comm]
theorem Gz {P:Program}:∀(vs:List V) (fs:List TypeId),vs.length=fs.length→(∀(i:Nat) (ft:TypeId) (v:V),fs[i]?=some ft→vs[i]?=some v→v.fl.length=P.cellsOf ft)→
 (BD vs).length=(fs.map P.cellsOf).sum
 |[],[],_,_=>rfl
 |[],_::_,h,_=>by simp at h
 |_::_,[],h,_=>by simp at h
 |v::vs,f::fs,h,H=>by
  simp only[BD,List.length_append,List.map_cons,List.sum_cons]
  rw[H 0 f v rfl rfl,Gz vs fs (by simpa using h) fun i ft w h1 h2=>H (i+1) ft w (by simpa using h1) (by simpa using h2)]
theorem HT.size {P:Program} (L:Lay P) {t:TypeId} {v:V} (h:HT P t v):v.fl.length=P.cellsOf t:=by
 induction h with
 |scal hk hv ho=>
  rw[L.scal _ hk]
  rename_i t v
  cases v<;>simp[V.scal]at hv<;>simp[V.fl]
 |undef hk=>rw[L.scal _ hk];rfl
 |undefS hk=>rw[(L.slice _ _ hk).1];rfl
 |lst hk=>rw[(L.slice _ _ hk).1];rfl
 |win hk=>rw[(L.slice _ _ hk).1];rfl
 |struct hk hl _ ih=>rw[L.struct _ _ _ hk];exact Gz _ _ hl ih
 |array hk hl _ ih=>rw[(L.array _ _ _ _ hk).1,←hl];exact Aw L _ _ ih
def SC (P:Program) (t:TypeId) (i:Nat):Option (Nat×TypeId):=
 match K P t with
 | .struct _ fs=>(fs[i]?).map fun ft=>(((fs.take i).map P.cellsOf).sum,ft)
 | .array _ n e=>if i<n then some (i*P.cellsOf e,e)else none
 |_=>none
def walk (P:Program):TypeId→List Nat→Option (Nat×TypeId)
 |t,[]=>some (0,t)
 |t,i::p=>(SC P t i).bind fun s=>(walk P s.2 p).map fun s'=>(s.1+s'.1,s'.2)
theorem Oo (P:Program) (p q:List Nat):∀t,walk P t (p++q)=(walk P t p).bind fun s=>(walk P s.2 q).map fun s'=>(s.1+s'.1,s'.2):=by
 induction p with
 |nil=>intro t;simp[walk]
 |cons i p ih=>
  intro t
  simp only[List.cons_append,walk]
  cases h:SC P t i with
  |none=>rfl
  |some s=>
   simp only[Option.bind_some]
   rw[ih]
   cases h2:walk P s.2 p with
   |none=>rfl
   |some s2=>
    simp only[Option.bind_some,Option.map_some]
    cases walk P s2.2 q<;>simp[Nat.add_assoc]
inductive BT where
 |var (t:TypeId)
 |row (e:TypeId) (n:Nat)
def BT.has (P:Program):BT→V→Prop
 | .var t,v=>HT P t v
 | .row e n,v=>∃xs,v= .row e xs∧xs.length=n∧∀x∈xs,HT P e x
def BT.size (P:Program):BT→Nat
 | .var t=>P.cellsOf t
 | .row e n=>n*P.cellsOf e
def BT.var? (P:Program):BT→List Nat→Option (Nat×TypeId)
 | .var t,p=>walk P t p
 | .row e n,i::p=>if i<n then(walk P e p).map fun s=>(i*P.cellsOf e+s.1,s.2)else none
 | .row _ _,[]=>none
def BT.arr? (P:Program) (b:BT) (p:List Nat):Option (Nat×Nat×TypeId):=
 match b,p with
 | .row e n,[]=>some (0,n,e)
 |b,p=>(b.var? P p).bind fun s=>match K P s.2 with
  | .array _ n e=>some (s.1,n,e)
  |_=>none
theorem BT.has.size {P:Program} (L:Lay P) {b:BT} {v:V} (h:b.has P v):v.fl.length=b.size P:=by
 cases b with
 |var t=>exact HT.size L h
 |row e n=>
  obtain⟨xs,rfl,rfl,hx⟩:=h
  exact Aw L xs e fun x hx'=>HT.size L (hx x hx')
theorem Fe {c:Value} (h:c.oneCell'=true):c.cells= #[c]:=by cases c<;>first|rfl|(simp[Value.oneCell']at h)
structure G where
 β:List (Option Nat)
 ty:List BT
 H:Nat→Option (Nat⊕(Nat×Nat)) -- who may append to a block:a slot,or a cell
 ro:Nat→Nat
 lro:Nat→Nat
def G.lim (g:G) (f:Fl) (b:Nat):Nat:=match f with
 | .lent=>g.lro b
 |_=>g.ro b
def Az (w:World) (b:Nat):Nat:=match w.heap[b]? with
 |some (.cells cs _ _)=>cs.size
 |_=>0
def V.leafy:V→Bool
 | .agg _ _| .row _ _| .tup _=>false
 |_=>true
def Fl.sure:Fl→Bool
 | .own| .non=>true
 |_=>false
inductive LR (P:Program) (g:G) (w:World):V→Value→Prop where
 |bool (b:Bool):LR P g w (.bool b) (.bool b)
 |int (k:IntKind) (n:Int):LR P g w (.int k n) (.int k n)
 |str (s:ByteArray):LR P g w (.str s.data.toList) (.string s)
 |nilp:LR P g w .nilp (.pointer none)
 |nilf:LR P g w .nilf .nilFunc
 |nili:LR P g w .nili .nilIface
 |ifv (t:TypeId) (c:Value):LR P g w .ifv (.iface t c)
 |undef (c:Value):c.oneCell'=true→LR P g w .undef c
 |nil (e:TypeId):LR P g w (.lst e .nil []) (.slice none 0 0)
 |emp (e:TypeId) (f:Fl) (a:Option Addr) (cap:Nat):f≠ .nil→(a=none→f.sure=false∧cap=0)→LR P g w (.lst e f []) (.slice a 0 cap)
 |lst (e:TypeId) (f:Fl) (xs:List V) (b off cap:Nat) (cs:List Value):f≠ .nil→(∀x∈xs,HT P e x)→(f≠ .lent→AU xs=true)→cs.length=(BD xs).length→
  (∀(j:Nat) (c:Value),cs[j]?=some c→w.cell? ⟨b,off+j,none⟩=some c)→
  (∀(j:Nat) (x:V) (c:Value),(BD xs)[j]?=some x→cs[j]?=some c→LR P g w x c)→
  b<w.heap.size→off+cs.length≤g.lim f b→xs.length≤cap→LR P g w (.lst e f xs) (.slice (some ⟨b,off,none⟩) xs.length cap)
 |win (id:Nat) (p:List Nat) (off len:Nat) (e:TypeId) (bt:BT) (o n b cap:Nat):g.ty[id]?=some bt→bt.arr? P p=some (o,n,e)→off+len≤n→g.β[id]?=some (some b)→len≤cap→
  (p=[]→(∃e' n',bt= .row e' n')→o+off*P.cellsOf e+cap*P.cellsOf e≤Az w b)→LR P g w (.win id p off len e) (.slice (some ⟨b,o+off*P.cellsOf e,none⟩) len cap)
 |win0 (id:Nat) (p:List Nat) (off:Nat) (e:TypeId) (bt:BT) (o n:Nat) (a:Option Addr) (cap:Nat):g.ty[id]?=some bt→bt.arr? P p=some (o,n,e)→off≤n→(a=none→cap=0)→LR P g w (.win id p off 0 e) (.slice a 0 cap)
 |ref (id:Nat) (p:List Nat) (t:TypeId) (bt:BT) (o b:Nat):g.ty[id]?=some bt→bt.var? P p=some (o,t)→g.β[id]?=some (some b)→LR P g w (.ref id p t) (.pointer (some ⟨b,o,none⟩))
 |rop (t:TypeId) (x:V) (b off:Nat) (cs:List Value):HT P t x→cs.length=x.fl.length→(∀(j:Nat) (c:Value),cs[j]?=some c→w.cell? ⟨b,off+j,none⟩=some c)→
  (∀(j:Nat) (y:V) (c:Value),x.fl[j]?=some y→cs[j]?=some c→LR P g w y c)→b<w.heap.size→off+cs.length≤g.lro b→
  LR P g w (.rop t x) (.pointer (some ⟨b,off,none⟩))
 |clo (f:FuncId) (vs:List V) (cs:List Value):vs.length=cs.length→(∀(j:Nat) (x:V) (c:Value),vs[j]?=some x→cs[j]?=some c→LR P g w x c)→
  LR P g w (.clo f vs) (.func (.func f) #[] cs.toArray)
inductive AR (P:Program) (g:G) (w:World):V→Value→Prop where
 |leaf {v:V} {c:Value}:v.leafy=true→LR P g w v c→AR P g w v c
 |agg {t u:TypeId} {fs:List V} {cs:List Value}:HT P t (.agg u fs)→cs.length=(BD fs).length→(∀(j:Nat) (x:V) (c:Value),(BD fs)[j]?=some x→cs[j]?=some c→LR P g w x c)→
  AR P g w (.agg u fs) (.agg cs.toArray)
inductive VR (P:Program) (g:G) (w:World):V→Value→Prop where
 |val {v:V} {c:Value}:AR P g w v c→VR P g w v c
 |dead (c:Value):VR P g w .undef c
 |tup {vs:List V} {cs:List Value}:BG vs=true→vs.length=cs.length→(∀(j:Nat) (x:V) (c:Value),vs[j]?=some x→cs[j]?=some c→AR P g w x c)→VR P g w (.tup vs) (.tuple cs.toArray)
def Own (P:Program) (g:G) (w:World) (e:TypeId) (n:Nat) (c:Value) (l:Nat⊕(Nat×Nat)):Prop:=
 (∃len,c= .slice none len 0)∨
 ∃b off len cap cs e' fz,c= .slice (some ⟨b,off,none⟩) len cap∧g.H b=some l∧some b∉g.β∧w.heap[b]?=some (.cells cs e' fz)∧off+cap*P.cellsOf e≤cs.size∧
  (∀j,j<cs.size→w.frozen? ⟨b,j,none⟩=false)∧g.ro b=off+n*P.cellsOf e∧g.lro b=g.ro b
structure BX (P:Program) (g:G) (w:World) (h:List V):Prop where
 len:h.length=g.β.length
 tys:h.length=g.ty.length
 inj:∀(i j b:Nat),g.β[i]?=some (some b)→g.β[j]?=some (some b)→i=j
 has:∀(i:Nat) (v:V) (bt:BT),h[i]?=some v→g.ty[i]?=some bt→bt.has P v
 void:∀(i:Nat) (v:V),h[i]?=some v→g.β[i]?=some none→v.fl=[]
 low:∀(i:Nat) (v:V),h[i]?=some v→v.under (i+1)=true
 cells:∀(i:Nat) (v:V) (b:Nat),h[i]?=some v→g.β[i]?=some (some b)→∃cs e fz,w.heap[b]?=some (.cells cs e fz)∧v.fl.length≤cs.size∧(∀j,j<cs.size→w.frozen? ⟨b,j,none⟩=false)∧
  (∀(j:Nat) (x:V),v.fl[j]?=some x→∃c,cs[j]?=some c∧LR P g w x c∧∀e xs,x= .lst e .own xs→Own P g w e xs.length c (.inr (b,j)))
structure WG (g:G) (w:World):Prop where
 fresh:∀b:Nat,w.heap.size≤b→g.H b=none∧g.ro b=0∧g.lro b=0
 box:∀(i b:Nat),g.β[i]?=some (some b)→b<w.heap.size∧g.ro b=0∧g.lro b=0∧g.H b=none
 le:∀b,g.ro b≤g.lro b
def GlobOk (P:Program) (A:Ann) (g:G) (w:World):Prop:=∀i t v,A.glob i=some (t,v)→LR P g w (.rop t v) (.pointer (some ⟨i,0,none⟩))∧g.H i=none∧some i∉g.β∧Az w i=v.fl.length
structure SR (P:Program) (A:Ann) (g:G) (w:World) (st:St) (tm:Array Value):Prop where
 slot:∀i,VR P g w (st.get i) (tm.getD i undef)
 own:∀i e xs,st.get i= .lst e .own xs→Own P g w e xs.length (tm.getD i undef) (.inl i)
 nown:∀i,(∃e xs,st.get i= .lst e .own xs)∨(st.get i).noOwn=true
 box:BX P g w st.h
 wg:WG g w
 glob:GlobOk P A g w
structure Ext (g:G) (w:World) (g':G) (w':World):Prop where
 os:w'.os=w.os
 tape:w'.tape=w.tape
 out:w'.output=w.output
 size:w.heap.size≤w'.heap.size
 same:∀b,b<w.heap.size→g.H b=none→some b∉g.β→w'.heap[b]?=w.heap[b]?∧g'.H b=none∧some b∉g'.β∧g'.ro b=g.ro b∧g'.lro b=g.lro b
 keep:∀b,b<w.heap.size→(∀j,j<g.lro b→w'.cell? ⟨b,j,none⟩=w.cell? ⟨b,j,none⟩)∧g.ro b≤g'.ro b∧g.lro b≤g'.lro b∧(some b∉g.β→some b∉g'.β)
 beta:∃l,g'.β=g.β++l
 typ:∃l,g'.ty=g.ty++l
 bsz:∀b,b<w.heap.size→Az w b≤Az w' b
theorem Ext.refl (g:G) (w:World):Ext g w g w:=
 ⟨rfl,rfl,rfl,Nat.le_refl _,fun _ _ h h'=>⟨rfl,h,h',rfl,rfl⟩,fun _ _=>⟨fun _ _=>rfl,Nat.le_refl _,Nat.le_refl _,id⟩,⟨[],by simp⟩,⟨[],by simp⟩,fun _ _=>Nat.le_refl _⟩
theorem Ext.trans {a b c:G} {u v w:World} (h:Ext a u b v) (k:Ext b v c w):Ext a u c w:=by
 refine⟨k.os.trans h.os,k.tape.trans h.tape,k.out.trans h.out,Nat.le_trans h.size k.size,fun x hx h1 h2=> ?_,fun x hx=> ?_,?_,?_,fun x hx=>Nat.le_trans (h.bsz x hx) (k.bsz x (Nat.lt_of_lt_of_le hx h.size))⟩
 ·obtain⟨s1,s2,s3,s4,s5⟩:=h.same x hx h1 h2
  obtain⟨t1,t2,t3,t4,t5⟩:=k.same x (Nat.lt_of_lt_of_le hx h.size) s2 s3
  exact⟨t1.trans s1,t2,t3,t4.trans s4,t5.trans s5⟩
 ·obtain⟨s1,s2,s3,s4⟩:=h.keep x hx
  obtain⟨t1,t2,t3,t4⟩:=k.keep x (Nat.lt_of_lt_of_le hx h.size)
  exact⟨fun j hj=>(t1 j (Nat.lt_of_lt_of_le hj s3)).trans (s1 j hj),Nat.le_trans s2 t2,Nat.le_trans s3 t3,fun hb=>t4 (s4 hb)⟩
 ·obtain⟨l,hl⟩:=h.beta;obtain⟨l',hl'⟩:=k.beta;exact⟨l++l',by rw[hl',hl,List.append_assoc]⟩
 ·obtain⟨l,hl⟩:=h.typ;obtain⟨l',hl'⟩:=k.typ;exact⟨l++l',by rw[hl',hl,List.append_assoc]⟩
theorem DX {α:Type} {a b l:List α} (h:b=a++l) {i:Nat} {x:α} (hx:a[i]?=some x):b[i]?=some x:=by
 have hi:i<a.length:=by
  rcases Nat.lt_or_ge i a.length with h|h
  ·exact h
  ·rw[List.getElem?_eq_none h]at hx;cases hx
 rw[h,List.getElem?_append_left hi];exact hx
theorem Ext.cells {g g':G} {w w':World} (E:Ext g w g' w') (W:WG g w) {b off:Nat} {cs:List Value} (hb:b<w.heap.size) (hl:off+cs.length≤g.lro b)
 (hc:∀(j:Nat) (c:Value),cs[j]?=some c→w.cell? ⟨b,off+j,none⟩=some c) (j:Nat) (c:Value) (h:cs[j]?=some c):w'.cell? ⟨b,off+j,none⟩=some c:=by
 have hj:j<cs.length:=by
  rcases Nat.lt_or_ge j cs.length with h'|h'
  ·exact h'
  ·rw[List.getElem?_eq_none h']at h;cases h
 rw[(E.keep b hb).1 (off+j) (by omega)]
 exact hc j c h
theorem G.lim_le {g:G} {w:World} (W:WG g w) (f:Fl) (b:Nat):g.lim f b≤g.lro b:=by
 cases f<;>simp only[G.lim,Nat.le_refl]<;>exact W.le b
theorem LR.ext {P:Program} {g g':G} {w w':World} (E:Ext g w g' w') (W:WG g w) {v:V} {c:Value} (h:LR P g w v c):LR P g' w' v c:=by
 obtain⟨lb,hlb⟩:=E.beta
 obtain⟨lt,hlt⟩:=E.typ
 induction h with
 |bool b=>exact .bool b
 |int k n=>exact .int k n
 |str s=>exact .str s
 |nilp=>exact .nilp
 |nilf=>exact .nilf
 |nili=>exact .nili
 |ifv te pe=>exact .ifv te pe
 |undef c hc=>exact .undef c hc
 |nil e=>exact .nil e
 |emp e f a cap hf hs=>exact .emp e f a cap hf hs
 |lst e f xs b off cap cs hf ht hcl hn hc hl hb hro hcap ih=>
  refine .lst e f xs b off cap cs hf ht hcl hn (E.cells W hb (Nat.le_trans hro (G.lim_le W f b)) hc) ih (Nat.lt_of_lt_of_le hb E.size) (Nat.le_trans hro ?_) hcap
  obtain⟨_,k1,k2,_⟩:=E.keep b hb
  cases f<;>simp only[G.lim]<;>assumption
 |win id p off len e bt o n b cap h1 h2 h3 h4 h5 h6=>exact .win id p off len e bt o n b cap (DX hlt h1) h2 h3 (DX hlb h4) h5 fun hp hr=>Nat.le_trans (h6 hp hr) (E.bsz b (W.box id b h4).1)
 |win0 id p off e bt o n a cap h1 h2 h3 h4=>exact .win0 id p off e bt o n a cap (DX hlt h1) h2 h3 h4
 |ref id p t bt o b h1 h2 h3=>exact .ref id p t bt o b (DX hlt h1) h2 (DX hlb h3)
 |rop t x b off cs ht hn hc hl hb hro ih=>
  exact .rop t x b off cs ht hn (E.cells W hb hro hc) ih (Nat.lt_of_lt_of_le hb E.size) (Nat.le_trans hro (E.keep b hb).2.2.1)
 |clo f vs cs hn hl ih=>exact .clo f vs cs hn ih
theorem AR.ext {P:Program} {g g':G} {w w':World} (E:Ext g w g' w') (W:WG g w) {v:V} {c:Value} (h:AR P g w v c):AR P g' w' v c:=by
 cases h with
 |leaf hv h=>exact .leaf hv (h.ext E W)
 |agg ht hn h=>exact .agg ht hn fun j x c h1 h2=>(h j x c h1 h2).ext E W
theorem VR.ext {P:Program} {g g':G} {w w':World} (E:Ext g w g' w') (W:WG g w) {v:V} {c:Value} (h:VR P g w v c):VR P g' w' v c:=by
 cases h with
 |val h=>exact .val (h.ext E W)
 |dead c=>exact .dead c
 |tup ho hn h=>exact .tup ho hn fun j x c h1 h2=>(h j x c h1 h2).ext E W
theorem GlobOk.ext {P:Program} {A:Ann} {g g':G} {w w':World} (E:Ext g w g' w') (W:WG g w) (h:GlobOk P A g w):GlobOk P A g' w':=fun i t v hi=>by
 obtain⟨h1,h2,h3,h4⟩:=h i t v hi
 have hb:i<w.heap.size:=by cases h1 with|rop=>assumption
 obtain⟨e1,e2,e3,_⟩:=E.same i hb h2 h3
 exact⟨h1.ext E W,e2,e3,by unfold Az;rw[e1];exact h4⟩
end AM
end
end Go.Proofs.YtphoocnlpnnkdaaGreatDoor
