/-
  Part of the proof of a statement about the given program: an abstract machine over its code, the simulation, its functions' equations, what they compute.
-/
import Derived.Test.YtaghnpjlhmgioaaDoorMg8
import Derived.Test.YtaghnpjlhmgioaaDoorMg9
set_option linter.unusedVariables false
set_option linter.unusedSimpArgs false
set_option linter.unusedSectionVars false
set_option maxRecDepth 100000
noncomputable section
namespace Go.Proofs.YtaghnpjlhmgioaaDoor
section
open Go AM
theorem ABd (n:Nat) (h:List V) (b:Bool):AY n h (.bool b)=some (.bool b,h.take n):=rfl
theorem Ij (n:Nat) (h:List V) (k:IntKind) (b:Int):AY n h (.int k b)=some (.int k b,h.take n):=rfl
def B32 (l:List Nat):Prop:=∀x∈l,x<4294967296
theorem ABe (a n:Nat):Int.fdiv (a:Int) (2^n)=((a/2^n:Nat):Int):=by
 have e:(2:Int)^n=((2^n:Nat):Int):=by push_cast;rfl
 rw[e,Int.fdiv_eq_ediv_of_nonneg _ (Int.natCast_nonneg _)];rfl
theorem B32.set {l:List Nat} (h:B32 l) (i:Nat) {x:Nat} (hx:x<4294967296):B32 (l.set i x):=by
 intro y hy
 rcases List.mem_or_eq_of_mem_set hy with hy|rfl
 ·exact h y hy
 ·exact hx
theorem AB {A B:Type} {o:Option A} {x:A} (h:o=some x) (K:A→Option B):o.bind K=K x:=by rw[h];rfl
theorem Ug {B:Type} {k:IntKind} {a b:Int} (h:a<b) (K:V→Option B):(AL .lss (.int k a) (.int k b)).bind K=K (.bool true):=by
 rw[b_lss,Option.bind_some,decide_eq_true h]
theorem Nq {B:Type} {k:IntKind} {a b:Int} (h:¬a<b) (K:V→Option B):(AL .lss (.int k a) (.int k b)).bind K=K (.bool false):=by
 rw[b_lss,Option.bind_some,decide_eq_false h]
theorem Ak {B:Type} (a b:Option B):V.ite (.bool true) a b=a:=rfl
theorem AV {B:Type} (a b:Option B):V.ite (.bool false) a b=b:=rfl
theorem Bj {B:Type} {a b:Nat} (h:b≤a) (ha:a<2^62) (K:V→Option B):(AL .sub (.int .i64 (a:Int)) (.int .i64 (b:Int))).bind K=K (.int .i64 ((a-b:Nat):Int)):=by
 rw[Lr,show(a:Int)-(b:Int)=((a-b:Nat):Int)by omega,Ad (by omega) (by omega)];rfl
theorem Bd {B:Type} {a b:Nat} (h:a+b<2^62) (K:V→Option B):(AL .add (.int .i64 (a:Int)) (.int .i64 (b:Int))).bind K=K (.int .i64 ((a+b:Nat):Int)):=by
 rw[DZ,show(a:Int)+(b:Int)=((a+b:Nat):Int)by omega,Ad (by omega) (by omega)];rfl
theorem YZ {B:Type} {a b:Nat} (h:a*b<2^62) (K:V→Option B):(AL .mul (.int .i64 (a:Int)) (.int .i64 (b:Int))).bind K=K (.int .i64 ((a*b:Nat):Int)):=by
 rw[ABa,←Int.natCast_mul,Ad (by omega) (by omega)];rfl
theorem AHm {B:Type} {a b:Nat} (h:b≤a) (ha:a<18446744073709551616) (K:V→Option B):(AL .sub (.int .u64 (a:Int)) (.int .u64 (b:Int))).bind K=K (.int .u64 ((a-b:Nat):Int)):=by
 rw[Lr,show(a:Int)-(b:Int)=((a-b:Nat):Int)by omega,ET (by omega) (by omega)];rfl
theorem Ya {B:Type} {k:IntKind} {a b:Int} (h:a=b) (K:V→Option B):(AL .eql (.int k a) (.int k b)).bind K=K (.bool true):=by
 rw[b_eql,Option.bind_some,decide_eq_true h]
theorem Yb {B:Type} {k:IntKind} {a b:Int} (h:¬a=b) (K:V→Option B):(AL .eql (.int k a) (.int k b)).bind K=K (.bool false):=by
 rw[b_eql,Option.bind_some,decide_eq_false h]
theorem J4 {B:Type} {k:IntKind} {a b:Int} (h:b≤a) (K:V→Option B):(AL .geq (.int k a) (.int k b)).bind K=K (.bool true):=by
 rw[b_geq,Option.bind_some,decide_eq_true h]
theorem Kz {B:Type} {k:IntKind} {a b:Int} (h:¬b≤a) (K:V→Option B):(AL .geq (.int k a) (.int k b)).bind K=K (.bool false):=by
 rw[b_geq,Option.bind_some,decide_eq_false h]
theorem cv8 {B:Type} {h:List V} {x:Nat} (K:V→Option B):(conv P h 92 5 (.int .u64 (x:Int))).bind K=K (.int .u8 ((x%256:Nat):Int)):=by
 refine(AB (Fv AHA ..) _).trans ?_
 rw[Ub]
theorem AHn {n:Nat} {h:List V}:(if(List.all [] V.okE)=true then AY n h (V.tup [])else none)=some (.tup [],h.take n):=rfl
end
section
open Go AM
theorem AHo {B:Type} {p:Prop} [Decidable p] {a b:Option B} {r:Option B} (h:p→a=r) (h2:¬p→b=r):V.ite (.bool (decide p)) a b=r:=by
 by_cases hp:p
 ·rw[decide_eq_true hp];exact h hp
 ·rw[decide_eq_false hp];exact h2 hp
theorem AHp {B:Type} {p:Bool} {a b:Option B} {r:Option B} (h:p=true→a=r) (h2:p=false→b=r):V.ite (.bool p) a b=r:=by
 cases p
 ·exact h2 rfl
 ·exact h rfl
@[go_sem] theorem AGt (id:Nat) (p:List Nat) (t:TypeId):V.capOk (.ref id p t)=true:=(rfl)
@[go_sem] theorem AGu {B:Type} (a b:B):(if(true:Bool)=true then a else b)=a:=(rfl)
theorem Yc {R:Type} {f:FuncId} {cs vs h:List V} (k:V→List V→Option R) (he:Df.ext f=false) (hp:Df.pure f=false) {r:V} {h':List V} (e:Cl f (Ac (vs++cs)) h=some (r,h')) (hs:(Df.seq f).1=0:=by kernel_rfl):BQ P Df W (.clo f cs) vs h k=k r h':=by
 rw[Uc k he hp hs,e];rfl
end
end Go.Proofs.YtaghnpjlhmgioaaDoor
