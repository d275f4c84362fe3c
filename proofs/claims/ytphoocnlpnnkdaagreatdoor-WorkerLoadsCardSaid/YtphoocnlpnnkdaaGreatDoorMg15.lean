/-
  Part of the proof of a statement about the given program: an abstract machine over its code, the simulation, its functions' equations, what they compute.
-/
import Derived.Laws.Cells
import Derived.Laws.Sem
import Derived.Test.YtphoocnlpnnkdaaGreatDoorMg14
import Derived.Walk3
set_option linter.unusedVariables false
set_option linter.unusedSimpArgs false
set_option linter.unusedSectionVars false
noncomputable section
namespace Go.Proofs.YtphoocnlpnnkdaaGreatDoor
section
namespace AM
open Go
section
variable {P:Program} {A:Ann} {g:G} {w:World}
theorem VR.int' {k:IntKind} {n:Int} {c:Value} (h:VR P g w (.int k n) c):c= .int k n:=by
 cases h with|val h=>cases h with|leaf _ h=>cases h;rfl
theorem VR.bool' {b:Bool} {c:Value} (h:VR P g w (.bool b) c):c= .bool b:=by
 cases h with|val h=>cases h with|leaf _ h=>cases h;rfl
theorem VR.str' {s:List UInt8} {c:Value} (h:VR P g w (.str s) c):∃b:ByteArray,c= .string b∧b.data.toList=s:=by
 cases h with|val h=>cases h with|leaf _ h=>cases h with|str b=>exact⟨b,rfl,rfl⟩
theorem VR.agg' {u:TypeId} {fs:List V} {c:Value} (h:VR P g w (.agg u fs) c):∃t cs,c= .agg (List.toArray cs)∧HT P t (.agg u fs)∧cs.length=(BD fs).length∧
 (∀(j:Nat) (x:V) (c:Value),(BD fs)[j]?=some x→cs[j]?=some c→LR P g w x c):=by
 cases h with|val h=>cases h with
  |leaf hv _=>simp[V.leafy]at hv
  |agg ht hn h=>exact⟨_,_,rfl,ht,hn,h⟩
theorem VR.leaf' {v:V} {c:Value} (hv:v.leafy=true) (hu:v≠ .undef) (h:VR P g w v c):LR P g w v c:=by
 cases h with
 |dead=>exact(hu rfl).elim
 |val h=>cases h with
  |leaf _ h=>exact h
  |agg=>simp[V.leafy]at hv
 |tup=>simp[V.leafy]at hv
theorem VR.tup' {vs:List V} {c:Value} (h:VR P g w (.tup vs) c):∃cs,c= .tuple (List.toArray cs)∧BG vs=true∧vs.length=cs.length∧
 (∀(j:Nat) (x:V) (c:Value),vs[j]?=some x→cs[j]?=some c→AR P g w x c):=by
 cases h with
 |val h=>cases h with|leaf hv _=>simp[V.leafy]at hv
 |tup h1 h2 h3=>exact⟨_,rfl,h1,h2,h3⟩
theorem VR.lf {v:V} {c:Value} (hv:v.leafy=true) (h:LR P g w v c):VR P g w v c:= .val (.leaf hv h)
theorem VR.of_int (k:IntKind) (n:Int):VR P g w (.int k n) (.int k n):= .lf rfl (.int k n)
theorem VR.of_bool (b:Bool):VR P g w (.bool b) (.bool b):= .lf rfl (.bool b)
theorem VR.of_str {s:List UInt8} {b:ByteArray} (h:b.data.toList=s):VR P g w (.str s) (.string b):=by subst h;exact .lf rfl (.str b)
theorem VR.of_undef (c:Value):VR P g w .undef c:= .dead c
mutual
theorem AMc:∀v:V,v.weak.fl=v.fl.map V.weak
 | .agg t fs=>by simp only[V.weak,V.fl];exact Jf fs
 | .row e fs=>by simp only[V.weak,V.fl];exact Jf fs
 | .lst e f xs=>by cases f<;>rfl
 | .bool _=>rfl
 | .int _ _=>rfl
 | .str _=>rfl
 | .win _ _ _ _ _=>rfl
 | .ref _ _ _=>rfl
 | .rop _ _=>rfl
 | .nilp=>rfl
 | .clo _ _=>rfl
 | .nilf=>rfl
 | .nili=>rfl
 | .ifv=>rfl
 | .tup _=>rfl
 | .undef=>rfl
theorem Jf:∀vs:List V,BD (Fv vs)=(BD vs).map V.weak
 |[]=>rfl
 |v::vs=>by simp only[Fv,BD,List.map_append];rw[AMc v,Jf vs]
end
theorem Gg (vs:List V):Fv vs=vs.map V.weak:=by induction vs with|nil=>rfl|cons v vs ih=>simp[Fv,ih]
theorem BQ (vs:List V):AP vs=vs.map V.norm:=by induction vs with|nil=>rfl|cons v vs ih=>simp[AP,ih]
theorem ED (vs:List V):AU vs=vs.all V.clean:=by induction vs with|nil=>rfl|cons v vs ih=>simp[AU,ih]
theorem Dk (vs:List V):BG vs=vs.all V.noOwn:=by induction vs with|nil=>rfl|cons v vs ih=>simp[BG,ih]
theorem HT.noOwn_weak {t:TypeId} {v:V} (h:HT P t v):v.weak.noOwn=true:=by
 induction h with
 |scal hk hv ho=>rename_i t v;cases v<;>simp[V.scal]at hv<;>rfl
 |undef hk=>rfl
 |undefS hk=>rfl
 |lst hk=>rename_i t e f xs;cases f<;>rfl
 |win hk=>rfl
 |struct hk hl _ ih=>
  rename_i t u fs vs _
  simp only[V.weak,V.noOwn,Dk,Gg,List.all_map,List.all_eq_true]
  intro v hv
  obtain⟨i,hi,rfl⟩:=List.mem_iff_getElem.1 hv
  exact ih i (fs[i]'(by omega)) vs[i] (List.getElem?_eq_getElem _) (List.getElem?_eq_getElem _)
 |array hk hl _ ih=>
  simp only[V.weak,V.noOwn,Dk,Gg,List.all_map,List.all_eq_true]
  exact fun v hv=>ih v hv
theorem LR.weak {v:V} {c:Value} (h:LR P g w v c):LR P g w v.weak c:=by
 cases h with
 |emp e f a cap hf hs=>cases f<;>first|exact(hf rfl).elim|exact .emp e _ a cap (by simp) hs|exact .emp e _ a cap (by simp) (fun h=>⟨rfl,(hs h).2⟩)
 |lst e f xs b off cap cs hf ht hcl hn hc hl hb hro hcap=>
  cases f with
  |own=>exact .lst e .sh xs b off cap cs (by simp) ht (fun _=>hcl (by simp)) hn hc hl hb hro hcap
  |nil=>exact(hf rfl).elim
  |sh=>exact .lst e _ xs b off cap cs hf ht hcl hn hc hl hb hro hcap
  |lent=>exact .lst e _ xs b off cap cs hf ht hcl hn hc hl hb hro hcap
  |non=>exact .lst e _ xs b off cap cs hf ht hcl hn hc hl hb hro hcap
 |nil e=>exact .nil e
 |bool b=>exact .bool b
 |int k n=>exact .int k n
 |str s=>exact .str s
 |nilp=>exact .nilp
 |nilf=>exact .nilf
 |nili=>exact .nili
 |ifv te pe=>exact .ifv te pe
 |undef c hc=>exact .undef c hc
 |win id p off len e bt o n b cap h1 h2 h3 h4 h5 h6=>exact .win id p off len e bt o n b cap h1 h2 h3 h4 h5 h6
 |win0 id p off e bt o n a cap h1 h2 h3 h4=>exact .win0 id p off e bt o n a cap h1 h2 h3 h4
 |ref id p t bt o b h1 h2 h3=>exact .ref id p t bt o b h1 h2 h3
 |rop t x b off cs ht hn hc hl hb hro=>exact .rop t x b off cs ht hn hc hl hb hro
 |clo f vs cs hn hl=>exact .clo f vs cs hn hl
theorem HT.weak {t:TypeId} {v:V} (h:HT P t v):HT P t v.weak:=by
 induction h with
 |scal hk hv ho=>rename_i t v;cases v<;>simp[V.scal]at hv<;>exact .scal hk rfl ho
 |undef hk=>exact .undef hk
 |undefS hk=>exact .undefS hk
 |lst hk=>rename_i t e f xs;cases f<;>exact .lst hk
 |win hk=>exact .win hk
 |struct hk hl _ ih=>
  refine .struct hk (by simp[Gg,hl]) fun i ft v h1 h2=> ?_
  rw[Gg,List.getElem?_map,Option.map_eq_some_iff]at h2
  obtain⟨v',h2,rfl⟩:=h2
  exact ih i ft v' h1 h2
 |array hk hl _ ih=>
  refine .array hk (by simp[Gg,hl]) fun v hv=> ?_
  rw[Gg,List.mem_map]at hv
  obtain⟨v',hv,rfl⟩:=hv
  exact ih v' hv
theorem SE {v:V} (h:v.leafy=true):v.weak.leafy=true:=by
 cases v with
 |lst e f xs=>cases f<;>rfl
 |agg=>simp[V.leafy]at h
 |row=>simp[V.leafy]at h
 |tup=>simp[V.leafy]at h
 |_=>rfl
theorem AR.weak {v:V} {c:Value} (h:AR P g w v c):AR P g w v.weak c:=by
 cases h with
 |leaf hv h=>exact .leaf (SE hv) h.weak
 |agg ht hn h=>
  rename_i t u fs cs
  refine .agg (t:=t) ht.weak (by rw[hn,Jf];simp) fun j x c h1 h2=> ?_
  rw[Jf,List.getElem?_map,Option.map_eq_some_iff]at h1
  obtain⟨x',h1,rfl⟩:=h1
  exact(h j x' c h1 h2).weak
theorem AR.noOwn_weak {v:V} {c:Value} (h:AR P g w v c):v.weak.noOwn=true:=by
 cases h with
 |leaf hv h=>
  cases v with
  |lst e f xs=>cases f<;>rfl
  |agg=>simp[V.leafy]at hv
  |row=>simp[V.leafy]at hv
  |tup=>simp[V.leafy]at hv
  |_=>rfl
 |agg ht hn h=>exact ht.noOwn_weak
theorem VR.weak {v:V} {c:Value} (h:VR P g w v c):VR P g w v.weak c:=by
 cases h with
 |val h=>exact .val h.weak
 |dead c=>exact .dead c
 |tup h1 h2 h3=>exact .tup h1 h2 h3
theorem VR.noOwn_weak {v:V} {c:Value} (h:VR P g w v c):v.weak.noOwn=true:=by
 cases h with
 |val h=>exact h.noOwn_weak
 |dead c=>rfl
 |tup h1 h2 h3=>exact h1
theorem VR.cst (t:TypeId) (c:Value):VR P g w (cst P t c) c∧(AM.cst P t c).noOwn=true:=by
 unfold AM.cst
 split
 ·exact⟨.of_bool _,rfl⟩
 ·exact⟨.of_int _ _,rfl⟩
 ·exact⟨.lf rfl (.str _),rfl⟩
 ·exact⟨.lf rfl .nilp,rfl⟩
 ·exact⟨.lf rfl (.nil _),rfl⟩
 ·exact⟨.lf rfl .nilf,rfl⟩
 ·exact⟨.lf rfl .nili,rfl⟩
 ·exact⟨.of_undef _,rfl⟩
theorem SR.ev {st:St} {a:Act} (S:SR P A g w st a.tmps) (t:TypeId) (x:Operand):VR P g w (st.ev P A t x) (a.eval x):=by
 cases x with
 |tmp i=>exact S.slot i
 |const c=>exact(VR.cst t c).1
 |global i=>
  simp only[St.ev]
  split
  ·rename_i t' v h
   exact .lf rfl (S.glob i t' v h).1
  ·exact .of_undef _
 |func f=>exact .lf rfl (.clo f [] [] rfl (by simp))
end
end AM
end
end Go.Proofs.YtphoocnlpnnkdaaGreatDoor
