/-
  Part of the proof of a statement about the given program: an abstract machine over its code, the simulation, its functions' equations, what they compute.
-/
import Derived.Test.YtoakaehjnbhgmaaGreatDoorMg5
import Derived.Test.YtoakaehjnbhgmaaGreatDoorMg6
import Derived.Test.YtoakaehjnbhgmaaGreatDoorMg7
set_option linter.unusedVariables false
set_option linter.unusedSimpArgs false
set_option linter.unusedSectionVars false
set_option maxRecDepth 100000
noncomputable section
namespace Go.Proofs.YtoakaehjnbhgmaaGreatDoor
section
open Go AM
end
section
open Go AM
section
variable {P:Program}
theorem WZ {t u:TypeId} {fs:List TypeId} {f:Nat} {ft:TypeId} (hk:K P t= .struct u fs) (hf:fs[f]?=some ft) (hc:P.cellsOf ft≠0) (id:Nat) (p:List Nat):EL P t f (.ref id p t)=some (.ref id (p++[f]) ft):=by
 simp[EL,hk,hf,hc]
theorem CS {h:List V} {t:TypeId} {id:Nat} {p:List Nat} {v:V} (hr:rd h id p=some v):AZ h t (.ref id p t)=some v:=by simp[AZ,hr]
theorem JY {h:List V} {t:TypeId} {v:V}:AZ h t (.rop t v)=some v:=by simp[AZ]
theorem EN {h:List V} {id:Nat} {v:V} (hv:h[id]?=some v):rd h id []=some v:=by simp[rd,hv,V.at]
theorem Rz {h:List V} {id i:Nat} {u:TypeId} {fs:List V} {v:V} (hv:h[id]?=some (.agg u fs)) (hi:fs[i]?=some v):rd h id [i]=some v:=by simp[rd,hv,V.at,hi]
theorem AH5 {h:List V} {id i:Nat} {u:TypeId} {fs:List V} {v:V} (hv:h[id]?=some (.row u fs)) (hi:fs[i]?=some v):rd h id [i]=some v:=by simp[rd,hv,V.at,hi]
theorem Dp {h:List V} {t:TypeId} {id:Nat} {v w:V} (hw:h[id]?=some w) (ht:Bd P t v=true) (hu:v.under (id+1)=true):FQ P h t (.ref id [] t) v=some (h.set id v):=by
 simp[FQ,ht,hu,wr,hw,V.upd]
theorem MV {h:List V} {t u:TypeId} {id i:Nat} {fs:List V} {v x:V} (hw:h[id]?=some (.agg u fs)) (hi:fs[i]?=some x) (ht:Bd P t v=true) (hu:v.under (id+1)=true):FQ P h t (.ref id [i] t) v=some (h.set id (.agg u (fs.set i v))):=by
 simp[FQ,ht,hu,wr,hw,V.upd,hi]
theorem AEp {h:List V} {t u:TypeId} {id i:Nat} {fs:List V} {v x:V} (hw:h[id]?=some (.row u fs)) (hi:fs[i]?=some x) (ht:Bd P t v=true) (hu:v.under (id+1)=true):FQ P h t (.ref id [i] t) v=some (h.set id (.row u (fs.set i v))):=by
 simp[FQ,ht,hu,wr,hw,V.upd,hi]
end
theorem Yv {α:Type} {h:List α} {i:Nat} {x:α} (y:α) (hx:h[i]?=some x):(h.set i y)[i]?=some y:=by
 have hi:i<h.length:=by
  rcases Nat.lt_or_ge i h.length with h'|h'
  ·exact h'
  ·rw[List.getElem?_eq_none h']at hx;cases hx
 rw[List.getElem?_set];simp[hi]
theorem Wh {α:Type} {h:List α} {i j:Nat} (y:α) (hij:j≠i):(h.set i y)[j]?=h[j]?:=by
 rw[List.getElem?_set];simp[Ne.symm hij]
theorem AEq {α:Type} {l:List α} {i:Nat} {a:α} (h:l[i]?=some a):l.set i a=l:=by
 apply List.ext_getElem?
 intro j
 by_cases hj:j=i
 ·subst hj;rw[Yv a h,h]
 ·rw[Wh a hj]
theorem SA {α:Type} {h:List α} {i:Nat} {x:α} (hx:h[i]?=some x):i<h.length:=by
 rcases Nat.lt_or_ge i h.length with h'|h'
 ·exact h'
 ·rw[List.getElem?_eq_none h']at hx;cases hx
theorem take_set {α:Type} (h z:List α) (i:Nat) (y:α):(h.set i y++z).take h.length=h.set i y:=by
 have:(h.set i y).length=h.length:=by simp
 rw[←this];simp
theorem ABh {R:Type} {f:FuncId} {cs vs h:List V} (k:V→List V→Option R) (he:DU.ext f=false) (hp:DU.pure f=false) (hs:(DU.seq f).1=0:=by kernel_rfl):Cj P DU W (.clo f cs) vs h k=(Cl f (AY (vs++cs)) h).bind fun r=>k r.1 r.2:=by
 simp only[Cj,GV,he,hp,hs,ne_eq,not_true_eq_false,Bool.false_eq_true,if_false,if_true];rfl
theorem AEr {f:FuncId} {vs:List V} (ht:DU.two f=false):E8 DU W f vs=Cl f vs []:=by
 unfold E8
 rw[ht];rfl
theorem AEs {R:Type} {f:FuncId} {cs vs h:List V} (k:V→List V→Option R) (he:DU.ext f=false) (hp:DU.pure f=true) (hs:(DU.seq f).1=0:=by kernel_rfl) (ht:DU.two f=false:=by kernel_rfl):Cj P DU W (.clo f cs) vs h k=(Cl f (AA h (vs++cs)) []).bind fun r=>k r.1 h:=by
 simp only[Cj,GV,he,hp,hs,ne_eq,not_true_eq_false,Bool.false_eq_true,if_false,if_true,AEr ht]
end
section
open Go AM
def vIn (s:List UInt8) (e:Nat):V:= .agg 195 [.str s,.int .i64 (e:Int)]
def rIn (id:Nat):V:= .ref id [] 196
theorem Yw (n:Nat) (h:List V) (k:IntKind) (b:Int):AV n h (.int k b)=some (.int k b,h.take n):=rfl
theorem JZ (n:Nat) (h:List V) (s:List UInt8):AV n h (.str s)=some (.str s,h.take n):=rfl
end
section
open Go AM
def vw (n:Nat):V:= .int .u32 (n:Int)
def Ja (l:List Nat):List V:=l.map vw
def A8 (l:List Nat):V:= .agg 247 (Ja l)
def Px (l:List Nat):V:= .agg 261 (Ja l)
def B32 (l:List Nat):Prop:=∀x∈l,x<4294967296
def DX (x n:Nat):Nat:=x*2^(32-n)%4294967296|||x/2^n
theorem Ae {x n:Nat} (hx:x<4294967296):DX x n<4294967296:=
 Nat.or_lt_two_pow (n:=32) (Nat.mod_lt _ (by decide)) (Nat.lt_of_le_of_lt (Nat.div_le_self _ _) hx)
theorem FC (n:Int):IntKind.wrap .u64 n=n%18446744073709551616:=by simp[IntKind.wrap,IntKind.bits,IntKind.signed]
theorem Ob (a n:Nat):Int.fdiv (a:Int) (2^n)=((a/2^n:Nat):Int):=by
 have e:(2:Int)^n=((2^n:Nat):Int):=by push_cast;rfl
 rw[e,Int.fdiv_eq_ediv_of_nonneg _ (Int.natCast_nonneg _)];rfl
theorem MW {a:Nat} (n:Nat) (hn:n≤32):AL .shr (.int .u32 (a:Int)) (.int .u64 (n:Int))=some (.int .u32 ((a/2^n:Nat):Int)):=by
 rw[U0 _ _ _ _ (by omega)]
 have:min ((n:Int)).toNat (IntKind.u32).bits=n:=by simp[IntKind.bits];omega
 rw[this,Ob]
theorem MX {a:Nat} (n:Nat) (hn:n≤32):AL .shl (.int .u32 (a:Int)) (.int .u64 (n:Int))=some (.int .u32 ((a*2^n%4294967296:Nat):Int)):=by
 rw[AGk _ _ _ _ (by omega)]
 have:min ((n:Int)).toNat (IntKind.u32).bits=n:=by simp[IntKind.bits];omega
 rw[this]
 have e:((a:Int)*2^n)=((a*2^n:Nat):Int):=by push_cast;rfl
 rw[e,F7]
theorem AEt (a b:Nat):AL .add (.int .u32 (a:Int)) (.int .u32 (b:Int))=some (.int .u32 (((a+b)%4294967296:Nat):Int)):=by
 rw[FB,show(a:Int)+(b:Int)=((a+b:Nat):Int)by omega,F7]
theorem AEu {x:Nat} (hx:x<4294967296) (n:Nat) (h1:1≤n) (h2:n≤31):Cl 211 [.int .u32 (x:Int),.int .i64 (n:Int)] []=some (.int .u32 (DX x n:Int),[]):=by
 have key:Cl 225 [.int .u32 (x:Int),.int .i64 (-(n:Int))] []=some (.int .u32 (DX x n:Int),[]):=by
  rw[AEl]
  have w:IntKind.wrap .u64 (-(n:Int))=((18446744073709551616-n:Nat):Int):=by rw[FC];omega
  have m:(18446744073709551616-n)&&& 31=32-n:=by
   rw[show(31:Nat)=2^5-1 from rfl,Nat.and_two_pow_sub_one_eq_mod];omega
  simp only[Yr,Yt,Yu,CV Rx,w,Option.bind_some]
  rw[show(31:Int)=((31:Nat):Int)from rfl,u64_and (by omega) (by omega),m,Option.bind_some,MX _ (by omega),Option.bind_some,JX,show(32:Int)-((32-n:Nat):Int)=(n:Int)by omega,wrap_u64 (by omega) (by omega),Option.bind_some,MW _ (by omega),Option.bind_some,
   u32_or (Nat.mod_lt _ (by decide)) (Nat.lt_of_le_of_lt (Nat.div_le_self _ _) hx),Option.bind_some,Yw]
  rfl
 rw[AEk]
 have ng:un .neg (.int .i64 (n:Int))=some (.int .i64 (-(n:Int))):=by
  simp only[un];rw[show(0:Int)-(n:Int)= -(n:Int)by omega,wrap_i64 (by omega) (by omega)]
 have e:AA [] [V.int .u32 (x:Int),V.int .i64 (-(n:Int))]=[V.int .u32 (x:Int),V.int .i64 (-(n:Int))]:=rfl
 simp only[Yp,Yq,ng,Option.bind_some,e,key]
 rfl
theorem AJm {h:List V} {x:Nat} (hx:x<4294967296) (n:Nat) (h1:1≤n) (h2:n≤31):Cl 211 (AA h [.int .u32 (x:Int),.int .i64 (n:Int)]) []=some (.int .u32 (DX x n:Int),[]):=AEu hx n h1 h2
theorem Ht {l:List Nat} {i:Nat} (hi:i<l.length):(Ja l)[i]?=some (vw (l.getD i 0)):=by
 simp[Ja,List.getElem?_map,List.getElem?_eq_getElem hi]
theorem B32.get {l:List Nat} (h:B32 l) (i:Nat):l.getD i 0<4294967296:=by
 rcases Nat.lt_or_ge i l.length with hi|hi
 ·rw[List.getD_eq_getElem?_getD,List.getElem?_eq_getElem hi];exact h _ (List.getElem_mem hi)
 ·rw[List.getD_eq_getElem?_getD,List.getElem?_eq_none hi];decide
theorem Yx (l:List Nat) (i x:Nat):(Ja l).set i (vw x)=Ja (l.set i x):=by simp[Ja,List.map_set]
theorem AH6 {id i:Nat} (hi:i<64):AP P 261 (.ref id [] 261) (.int .i64 (i:Int))=some (.ref id [i] 203):=by
 have:inside (i:Int) 64=true:=by simp[inside];omega
 simp[AP,AGj,this]
theorem ix8 {id i:Nat} (hi:i<8):AP P 247 (.ref id [] 247) (.int .i64 (i:Int))=some (.ref id [i] 203):=by
 have:inside (i:Int) 8=true:=by simp[inside];omega
 simp[AP,LK,this]
theorem ixK {i:Nat} (hi:i<64) {l:List Nat} (hl:l.length=64):AP P 261 (.rop 261 (Px l)) (.int .i64 (i:Int))=some (.rop 203 (vw (l.getD i 0))):=by
 have:inside (i:Int) 64=true:=by simp[inside];omega
 simp[AP,AGj,this,Px,Ht (show i<l.length by omega)]
theorem AJn (x:Nat):Bd P 203 (vw x)=true:=by simp[Bd,AGi,BZ,Ry,vw]
theorem AMI {h:List V} {id i:Nat} {l:List Nat} (hh:h[id]?=some (Px l)) (hi:i<l.length):AZ h 203 (.ref id [i] 203)=some (vw (l.getD i 0)):=CS (Rz hh (Ht hi))
theorem ld8 {h:List V} {id i:Nat} {l:List Nat} (hh:h[id]?=some (A8 l)) (hi:i<l.length):AZ h 203 (.ref id [i] 203)=some (vw (l.getD i 0)):=CS (Rz hh (Ht hi))
theorem AJo {h:List V} {id i x:Nat} {l:List Nat} (hh:h[id]?=some (Px l)) (hi:i<l.length):FQ P h 203 (.ref id [i] 203) (vw x)=some (h.set id (Px (l.set i x))):=by
 rw[MV hh (Ht hi) (AJn x) rfl,Yx];rfl
theorem st8 {h:List V} {id i x:Nat} {l:List Nat} (hh:h[id]?=some (A8 l)) (hi:i<l.length):FQ P h 203 (.ref id [i] 203) (vw x)=some (h.set id (A8 (l.set i x))):=by
 rw[MV hh (Ht hi) (AJn x) rfl,Yx];rfl
def wordAt (p:List UInt8) (t:Nat):Nat:=((p.getD (4*t) 0).toNat*2^24%4294967296|||(p.getD (4*t+1) 0).toNat*2^16%4294967296)|||(p.getD (4*t+2) 0).toNat*2^8%4294967296|||(p.getD (4*t+3) 0).toNat
def IW (p:List UInt8):Nat→Nat→List Nat→List Nat
 |0,_,w=>w
 |n+1,t,w=>IW p n (t+1) (w.set t (wordAt p t))
theorem KF (p:List UInt8) (t:Nat):wordAt p t<4294967296:=by
 have h3:(p.getD (4*t+3) 0).toNat<2^32:=Nat.lt_of_lt_of_le (UInt8.toNat_lt _) (by decide)
 refine Nat.or_lt_two_pow (n:=32) (Nat.or_lt_two_pow (n:=32) (Nat.or_lt_two_pow (n:=32) (Nat.mod_lt _ (by decide)) (Nat.mod_lt _ (by decide))) (Nat.mod_lt _ (by decide))) h3
theorem B32.set {l:List Nat} (h:B32 l) (i:Nat) {x:Nat} (hx:x<4294967296):B32 (l.set i x):=by
 intro y hy
 rcases List.mem_or_eq_of_mem_set hy with hy|rfl
 ·exact h y hy
 ·exact hx
theorem U1 (p:List UInt8):∀(n t:Nat) (w:List Nat),B32 w→w.length=64→B32 (IW p n t w)∧(IW p n t w).length=64
 |0,_,w,h,hl=>⟨h,hl⟩
 |n+1,t,w,h,hl=>U1 p n (t+1) _ (h.set t (KF p t)) (by simp[hl])
theorem KG {p:List UInt8} {i:Nat} (hi:i<p.length):(bytesOf p)[i]?=some (.int .u8 ((p.getD i 0).toNat:Int)):=by
 simp[bytesOf,List.getElem?_map,List.getElem?_eq_getElem hi]
theorem ixB {xs:List V} {f:Fl} {i:Nat} {v:V} (hv:xs[i]?=some v):AP P 172 (.lst 5 f xs) (.int .i64 (i:Int))=some (.rop 5 v):=by
 have hi:=SA hv
 have:inside (i:Int) xs.length=true:=by simp[inside,hi]
 simp[AP,Dc,this,hv]
theorem ixW {xs:List V} {f:Fl} {i:Nat} {v:V} (hv:xs[i]?=some v):AP P 172 (V.weak (.lst 5 f xs)) (.int .i64 (i:Int))=some (.rop 5 v):=by
 cases f<;>exact ixB hv
theorem AEv {h:List V} {f:Fl} {p:List UInt8} {t:Nat} {l:List Nat} (hp:4*t+4≤p.length) (ht:t<64) (hh:h[2]?=some (Px l)) (hl:l.length=64) (K:List V→Option (V×List V)):
 Ru (.ref 2 [] 261) (.int .i64 (t:Int)) (.lst 5 f (((bytesOf p).take (4*t+4)).drop (4*t))) h K=K (h.set 2 (Px (l.set t (wordAt p t)))):=by
 have g:∀j,j<4→(((bytesOf p).take (4*t+4)).drop (4*t))[j]?=some (.int .u8 ((p.getD (4*t+j) 0).toNat:Int)):=by
  intro j hj
  rw[List.getElem?_drop,List.getElem?_take_of_lt (by omega),KG (by omega)]
 have i0:=ixW (f:=f) (g 0 (by omega));have i1:=ixW (f:=f) (g 1 (by omega));have i2:=ixW (f:=f) (g 2 (by omega));have i3:=ixW (f:=f) (g 3 (by omega))
 have b:∀j,(p.getD j 0).toNat<256:=fun j=>UInt8.toNat_lt _
 have c:∀x:Nat,x<256→conv P h 5 203 (.int .u8 (x:Int))=some (.int .u32 (x:Int)):=fun x hx=>by rw[CV Ry,wrap_u32 (by omega) (by omega)]
 have s24:∀x:Nat,AL .shl (.int .u32 (x:Int)) (.int .u64 24)=some (.int .u32 ((x*2^24%4294967296:Nat):Int)):=fun x=>MX (a:=x) 24 (by omega)
 have s16:∀x:Nat,AL .shl (.int .u32 (x:Int)) (.int .u64 16)=some (.int .u32 ((x*2^16%4294967296:Nat):Int)):=fun x=>MX (a:=x) 16 (by omega)
 have s8:∀x:Nat,AL .shl (.int .u32 (x:Int)) (.int .u64 8)=some (.int .u32 ((x*2^8%4294967296:Nat):Int)):=fun x=>MX (a:=x) 8 (by omega)
 have m:∀x:Nat,x%4294967296<4294967296:=fun x=>Nat.mod_lt _ (by decide)
 have o1:=Nat.or_lt_two_pow (n:=32) (m ((p.getD (4*t+0) 0).toNat*2^24)) (m ((p.getD (4*t+1) 0).toNat*2^16))
 have o2:=Nat.or_lt_two_pow (n:=32) o1 (m ((p.getD (4*t+2) 0).toNat*2^8))
 simp only[Ru]
 rw[show(0:Int)=((0:Nat):Int)from rfl,show(1:Int)=((1:Nat):Int)from rfl,show(2:Int)=((2:Nat):Int)from rfl,show(3:Int)=((3:Nat):Int)from rfl,i0,i1,i2,i3]
 simp only[Option.bind_some,JY,c _ (b _),s24,s16,s8]
 rw[u32_or (m _) (m _)]
 simp only[Option.bind_some]
 rw[u32_or o1 (m _)]
 simp only[Option.bind_some]
 rw[u32_or o2 (by have:=b (4*t+3);omega)]
 simp only[Option.bind_some]
 rw[AH6 ht,Option.bind_some]
 exact(congrArg (fun z=>Option.bind z fun h_1=>K h_1) (AJo (x:=wordAt p t) hh (by omega))).trans rfl
end
section
open Go AM
def sg0 (x:Nat):Nat:=(DX x 7 ^^^ DX x 18) ^^^ x/2^3
def sg1 (x:Nat):Nat:=(DX x 17 ^^^ DX x 19) ^^^ x/2^10
def ad (a b:Nat):Nat:=(a+b)%4294967296
def IX:Nat→Nat→List Nat→List Nat
 |0,_,w=>w
 |n+1,t,w=>IX n (t+1) (w.set t (ad (ad (ad (w.getD (t-16) 0) (w.getD (t-7) 0)) (sg0 (w.getD (t-15) 0))) (sg1 (w.getD (t-2) 0))))
theorem QS (a b:Nat):ad a b<4294967296:=Nat.mod_lt _ (by decide)
theorem Cc {a b:Nat} (ha:a<4294967296) (hb:b<4294967296):a ^^^ b<4294967296:=Nat.xor_lt_two_pow (n:=32) ha hb
theorem ABi {a b:Nat} (ha:a<4294967296) (hb:b<4294967296):a|||b<4294967296:=Nat.or_lt_two_pow (n:=32) ha hb
theorem DL {a b:Nat} (ha:a<4294967296):a&&& b<4294967296:=Nat.lt_of_le_of_lt Nat.and_le_left ha
theorem Hu {a:Nat} (n:Nat) (ha:a<4294967296):a/n<4294967296:=Nat.lt_of_le_of_lt (Nat.div_le_self _ _) ha
theorem Ea (a b:Nat):AL .add (.int .u32 (a:Int)) (.int .u32 (b:Int))=some (.int .u32 (ad a b:Int)):=AEt a b
theorem U2:∀(n t:Nat) (w:List Nat),B32 w→w.length=64→B32 (IX n t w)∧(IX n t w).length=64
 |0,_,w,h,hl=>⟨h,hl⟩
 |n+1,t,w,h,hl=>U2 n (t+1) _ (h.set t (QS _ _)) (by simp[hl])
def rnd (k:List Nat) (w:List Nat) (t:Nat) (v:List Nat):List Nat:=
 let a:=v.getD 0 0;let b:=v.getD 1 0;let c:=v.getD 2 0;let e:=v.getD 4 0;let f:=v.getD 5 0;let g:=v.getD 6 0
 let x:=ad (ad (ad (ad (v.getD 7 0) ((DX e 6 ^^^ DX e 11) ^^^ DX e 25)) (g ^^^ (e&&& (f ^^^ g)))) (k.getD t 0)) (w.getD t 0)
 let y:=ad ((DX a 2 ^^^ DX a 13) ^^^ DX a 22) ((a&&& b)|||(c&&& (a|||b)))
 [ad x y,a,b,c,ad (v.getD 3 0) x,e,f,g]
def Oc (k w:List Nat):Nat→Nat→List Nat→List Nat
 |0,_,v=>v
 |n+1,t,v=>Oc k w n (t+1) (rnd k w t v)
def KH (v:List Nat):Nat→Nat→List Nat→List Nat
 |0,_,h=>h
 |n+1,i,h=>KH v n (i+1) (h.set i (ad (h.getD i 0) (v.getD i 0)))
def BD:List Nat:=(match NH with|V.agg _ l=>l|_=>[]).map fun v=>match v with|V.int _ n=>n.toNat|_=>0
theorem AEx:NH=Px BD:=by kernel_rfl
theorem AGo:BD.length=64:=by kernel_rfl
theorem AGp:B32 BD:=by
 have h:BD.all (fun x=>decide (x<4294967296))=true:=by kernel_rfl
 intro x hx
 have:=List.all_eq_true.1 h x hx
 exact of_decide_eq_true this
def QT (h:List Nat) (p:List UInt8):List Nat:=
 let w:=IX 48 16 (IW p 16 0 (List.replicate 64 0))
 KH (Oc BD w 64 0 h) 8 0 h
theorem Wi {k w v:List Nat} (hv:B32 v) (t:Nat):B32 (rnd k w t v)∧(rnd k w t v).length=8:=by
 refine⟨?_,rfl⟩
 intro x hx
 simp only[rnd,List.mem_cons,List.not_mem_nil,or_false]at hx
 rcases hx with rfl|rfl|rfl|rfl|rfl|rfl|rfl|rfl<;>first|exact QS _ _|exact hv.get _
theorem Yy {v:List Nat}:∀(n i:Nat) (h:List Nat),B32 h→h.length=8→B32 (KH v n i h)∧(KH v n i h).length=8
 |0,_,h,hb,hl=>⟨hb,hl⟩
 |n+1,i,h,hb,hl=>Yy n (i+1) _ (hb.set i (QS _ _)) (by simp[hl])
theorem QU (h:List V):∀l:List Nat,CB h (Ja l)=Ja l
 |[]=>rfl
 |x::l=>by simp only[Ja,List.map_cons,CB];rw[show List.map vw l=Ja l from rfl,QU h l];rfl
theorem U3:∀l:List Nat,AY (Ja l)=Ja l
 |[]=>rfl
 |x::l=>by simp only[Ja,List.map_cons,AY];rw[show List.map vw l=Ja l from rfl,U3 l];rfl
theorem QV:∀l:List Nat,AQ (Ja l)=true
 |[]=>rfl
 |x::l=>by simp only[Ja,List.map_cons,AQ];rw[show List.map vw l=Ja l from rfl,QV l];rfl
theorem U4 (n:Nat):∀l:List Nat,DC n (Ja l)=true
 |[]=>rfl
 |x::l=>by simp only[Ja,List.map_cons,DC];rw[show List.map vw l=Ja l from rfl,U4 n l];rfl
theorem EX (n:Nat):∀l:List Nat,Aa n (Ja l)=true
 |[]=>rfl
 |x::l=>by simp only[Ja,List.map_cons,Aa];rw[show List.map vw l=Ja l from rfl,EX n l];rfl
theorem AH8 (n:Nat) (h:List V) (l:List Nat):AV n h (A8 l)=some (A8 l,h.take n):=by
 simp only[AV,A8,V.unmut,QU,V.norm,U3,V.clean,QV,V.over,U4,Bool.and_self,if_true]
theorem AEy (v:List Nat) (hv:v.length=8) (x w z:V):∀(n i:Nat) (hs:List Nat),i+n=8→hs.length=8→
 MR (.ref 0 [] 247) (.ref 1 [] 247) (A8 v) (.int .i64 (i:Int)) [A8 hs,A8 (List.replicate 8 0),w,z]=some (A8 (KH v n i hs),[]):=by
 intro n
 induction n with
 |zero=>
  intro i hs hi hl
  rw[OU]
  have:¬((i:Int)<8):=by omega
  have l0:AZ [A8 hs,A8 (List.replicate 8 0),w,z] 247 (.ref 0 [] 247)=some (A8 hs):=CS (EN rfl)
  have s1:FQ P [A8 hs,A8 (List.replicate 8 0),w,z] 247 (.ref 1 [] 247) (A8 hs)=some [A8 hs,A8 hs,w,z]:=
   Dp rfl (by simp[Bd,LK,A8]) (by simp only[A8,V.under];exact EX _ _)
  have l1:AZ [A8 hs,A8 hs,w,z] 247 (.ref 1 [] 247)=some (A8 hs):=CS (EN rfl)
  simp only[OT,Uy,b_lss,Option.bind_some,ABe,this,if_false,l0,s1,l1,AH8,List.take_zero,KH]
 |succ n ih=>
  intro i hs hi hl
  rw[OU]
  have hlt:(i:Int)<8:=by omega
  have ix:Fz P 247 (A8 v) (.int .i64 (i:Int))=some (vw (v.getD i 0)):=by
   have:inside (i:Int) 8=true:=by simp[inside];omega
   simp[Fz,A8,LK,this,Ht (show i<v.length by omega),cp,ABd]
  have l0:AZ [A8 hs,A8 (List.replicate 8 0),w,z] 203 (.ref 0 [i] 203)=some (vw (hs.getD i 0)):=ld8 rfl (by omega)
  have s0:FQ P [A8 hs,A8 (List.replicate 8 0),w,z] 203 (.ref 0 [i] 203) (vw (ad (hs.getD i 0) (v.getD i 0)))=some [A8 (hs.set i (ad (hs.getD i 0) (v.getD i 0))),A8 (List.replicate 8 0),w,z]:=st8 rfl (by omega)
  have a0:AL .add (vw (hs.getD i 0)) (vw (v.getD i 0))=some (vw (ad (hs.getD i 0) (v.getD i 0))):=Ea _ _
  simp only[OT,Uu,Uw,Ux,b_lss,Option.bind_some,ABe,hlt,if_true,ix,ix8 (show i<8 by omega),l0,a0,s0,FB]
  rw[show((i:Int)+1)=((i+1:Nat):Int)by omega,wrap_i64 (by omega) (by omega)]
  exact ih (i+1) _ (by omega) (by simp[hl])
theorem AMJ {id:Nat} (j:Nat) (hj:j<8):AP P 247 (.ref id [] 247) (.int .i64 (j:Int))=some (.ref id [j] 203):=ix8 hj
theorem at8 {B:Type} {h:List V} {id:Nat} {v:List Nat} (hh:h[id]?=some (A8 v)) (hv:v.length=8) (j:Nat) (hj:j<8) (K:V→Option B):
 (AP P 247 (.ref id [] 247) (.int .i64 (j:Int))).bind (fun a=>(AZ h 203 a).bind K)=K (.int .u32 (v.getD j 0:Int)):=by
 rw[AMJ j hj,Option.bind_some,ld8 hh (by omega),Option.bind_some];rfl
theorem SB {B:Type} {h:List V} {id:Nat} {v:List Nat} (hh:h[id]?=some (Px v)) (hv:v.length=64) (j:Nat) (hj:j<64) (K:V→Option B):
 (AP P 261 (.ref id [] 261) (.int .i64 (j:Int))).bind (fun a=>(AZ h 203 a).bind K)=K (.int .u32 (v.getD j 0:Int)):=by
 rw[AH6 hj,Option.bind_some,AMI hh (by omega),Option.bind_some];rfl
theorem atK {B:Type} {h:List V} (j:Nat) (hj:j<64) (K:V→Option B):
 (AP P 261 (.rop 261 NH) (.int .i64 (j:Int))).bind (fun a=>(AZ h 203 a).bind K)=K (.int .u32 (BD.getD j 0:Int)):=by
 rw[AEx,ixK hj AGo,Option.bind_some,JY,Option.bind_some];rfl
theorem trn {B:Type} {h:List V} {x:Nat} (hx:x<4294967296) (m:Nat) (h1:1≤m) (h2:m≤31) (K:V×List V→Option B):
 (Cl 211 (AA h [.int .u32 (x:Int),.int .i64 (m:Int)]) []).bind K=K (.int .u32 (DX x m:Int),[]):=by
 rw[AJm hx m h1 h2,Option.bind_some]
theorem AB {A B:Type} {o:Option A} {x:A} (h:o=some x) (K:A→Option B):o.bind K=K x:=by rw[h];rfl
theorem Fa {B:Type} {k:IntKind} {a b:Int} (h:a<b) (K:V→Option B):(AL .lss (.int k a) (.int k b)).bind K=K (.bool true):=by
 rw[b_lss,Option.bind_some,decide_eq_true h]
theorem GR {B:Type} {k:IntKind} {a b:Int} (h:¬a<b) (K:V→Option B):(AL .lss (.int k a) (.int k b)).bind K=K (.bool false):=by
 rw[b_lss,Option.bind_some,decide_eq_false h]
theorem BQ {B:Type} (a b:Option B):V.ite (.bool true) a b=a:=rfl
theorem BR {B:Type} (a b:Option B):V.ite (.bool false) a b=b:=rfl
theorem ABj {h:List V} {v:List Nat} (hh:h[3]?=some (A8 v)) (hv:v.length=8) (K:V→V→V→V→V→V→Option (V×List V)):
 OL (.ref 3 [] 247) h K=K (vw (v.getD 0 0)) (vw (v.getD 1 0)) (vw (v.getD 2 0)) (vw (v.getD 4 0)) (vw (v.getD 5 0)) (vw (v.getD 6 0)):=by
 unfold OL
 exact(at8 hh hv 0 (by omega) _).trans<|(at8 hh hv 1 (by omega) _).trans<|(at8 hh hv 2 (by omega) _).trans<|(at8 hh hv 4 (by omega) _).trans<|(at8 hh hv 5 (by omega) _).trans<|(at8 hh hv 6 (by omega) _)
def chE (e f g h7 k w:Nat):Nat:=ad (ad (ad (ad h7 ((DX e 6 ^^^ DX e 11) ^^^ DX e 25)) (g ^^^ (e&&& (f ^^^ g)))) k) w
def mjA (a b c:Nat):Nat:=ad ((DX a 2 ^^^ DX a 13) ^^^ DX a 22) ((a&&& b)|||(c&&& (a|||b)))
theorem ABk {h:List V} {v w:List Nat} {t e f g:Nat} (hh:h[3]?=some (A8 v)) (hv:v.length=8) (hw:h[2]?=some (Px w)) (lw:w.length=64) (ht:t<64)
 (be:e<4294967296) (bf:f<4294967296) (bg:g<4294967296) (K:V→Option (V×List V)):
 OM (.ref 2 [] 261) (.ref 3 [] 247) (.int .i64 (t:Int)) (vw e) (vw f) (vw g) h K=K (vw (chE e f g (v.getD 7 0) (BD.getD t 0) (w.getD t 0))):=by
 have r1:=Ae (n:=6) be;have r2:=Ae (n:=11) be;have r3:=Ae (n:=25) be
 unfold OM
 refine(at8 hh hv 7 (by omega) _).trans ?_
 refine(trn be 6 (by omega) (by omega) _).trans<|(trn be 11 (by omega) (by omega) _).trans ?_
 refine(AB (u32_xor r1 r2) _).trans ?_
 refine(trn be 25 (by omega) (by omega) _).trans ?_
 refine(AB (u32_xor (Cc r1 r2) r3) _).trans ?_
 refine(AB (Ea _ _) _).trans ?_
 refine(AB (u32_xor bf bg) _).trans ?_
 refine(AB (u32_and be (Cc bf bg)) _).trans ?_
 refine(AB (u32_xor bg (DL be)) _).trans ?_
 refine(AB (Ea _ _) _).trans ?_
 refine(atK t ht _).trans ?_
 refine(AB (Ea _ _) _).trans ?_
 refine(SB hw lw t ht _).trans ?_
 exact AB (Ea _ _) _
theorem ABl {h:List V} {a b c:Nat} (ba:a<4294967296) (bb:b<4294967296) (bc:c<4294967296) (K:V→Option (V×List V)):
 OO (vw a) (vw b) (vw c) h K=K (vw (mjA a b c)):=by
 have r1:=Ae (n:=2) ba;have r2:=Ae (n:=13) ba;have r3:=Ae (n:=22) ba
 unfold OO
 refine(trn ba 2 (by omega) (by omega) _).trans<|(trn ba 13 (by omega) (by omega) _).trans ?_
 refine(AB (u32_xor r1 r2) _).trans ?_
 refine(trn ba 22 (by omega) (by omega) _).trans ?_
 refine(AB (u32_xor (Cc r1 r2) r3) _).trans ?_
 refine(AB (u32_and ba bb) _).trans ?_
 refine(AB (u32_or ba bb) _).trans ?_
 refine(AB (u32_and bc (ABi ba bb)) _).trans ?_
 refine(AB (u32_or (DL ba) (DL bc)) _).trans ?_
 exact AB (Ea _ _) _
theorem AML (z0 z1 z2 z3 z4 z5 z6 z7:Nat):bld P 247 [(0,.int .u32 (z0:Int)),(1,.int .u32 (z1:Int)),(2,.int .u32 (z2:Int)),(3,.int .u32 (z3:Int)),(4,.int .u32 (z4:Int)),(5,.int .u32 (z5:Int)),(6,.int .u32 (z6:Int)),(7,.int .u32 (z7:Int))]=some (A8 [z0,z1,z2,z3,z4,z5,z6,z7]):=by
 simp[bld,LK,WY,BL,Bd,AGi,BZ,Ry,cp,ABd,A8,Ja,vw,List.replicate]
theorem ABm {h:List V} {v:List Nat} {a b c e f g x y:Nat} (hh:h[3]?=some (A8 v)) (hv:v.length=8) (K:List V→Option (V×List V)):
 OQ (.ref 3 [] 247) (vw a) (vw b) (vw c) (vw e) (vw f) (vw g) (vw x) (vw y) h K=K (h.set 3 (A8 [ad x y,a,b,c,ad (v.getD 3 0) x,e,f,g])):=by
 unfold OQ
 refine(AB (Ea _ _) _).trans ?_
 refine(at8 hh hv 3 (by omega) _).trans ?_
 refine(AB (Ea _ _) _).trans ?_
 refine(AB (AML _ _ _ _ _ _ _ _) _).trans ?_
 exact AB (Dp hh (by simp[Bd,LK,A8]) (by simp only[A8,V.under];exact EX _ _)) _
theorem ABn (k w v:List Nat) (t:Nat):rnd k w t v=[ad (chE (v.getD 4 0) (v.getD 5 0) (v.getD 6 0) (v.getD 7 0) (k.getD t 0) (w.getD t 0)) (mjA (v.getD 0 0) (v.getD 1 0) (v.getD 2 0)),v.getD 0 0,v.getD 1 0,v.getD 2 0,
 ad (v.getD 3 0) (chE (v.getD 4 0) (v.getD 5 0) (v.getD 6 0) (v.getD 7 0) (k.getD t 0) (w.getD t 0)),v.getD 4 0,v.getD 5 0,v.getD 6 0]:=rfl
theorem ABo (k w:List Nat) (n t:Nat) (v:List Nat):Oc k w (n+1) t v=Oc k w n (t+1) (rnd k w t v):=rfl
theorem AEz (h w:List Nat) (hh:h.length=8) (hw:w.length=64) (bw:B32 w):∀(n t:Nat) (v:List Nat),t+n=64→B32 v→v.length=8→
 MQ (.ref 0 [] 247) (.ref 1 [] 247) (.ref 2 [] 261) (.ref 3 [] 247) (.int .i64 (t:Int)) [A8 h,A8 (List.replicate 8 0),Px w,A8 v]=
  some (A8 (KH (Oc BD w n t v) 8 0 h),[]):=by
 intro n
 induction n with
 |zero=>
  intro t v ht bv hv
  rw[OV]
  have:¬((t:Int)<64):=by omega
  have l3:AZ [A8 h,A8 (List.replicate 8 0),Px w,A8 v] 247 (.ref 3 [] 247)=some (A8 v):=CS (EN rfl)
  simp only[OJ,Ut,b_lss,Option.bind_some,ABe,this,if_false,l3,Oc]
  exact AEy v hv (A8 v) (Px w) (A8 v) 8 0 h rfl hh
 |succ n ih=>
  intro t v ht bv hv
  rw[OV]
  have hlt:(t:Int)<64:=by omega
  have ht':t<64:=by omega
  rw[OJ,Fa hlt,BQ,Ur]
  rw[ABj rfl hv,ABk rfl hv rfl hw ht' (bv.get 4) (bv.get 5) (bv.get 6),ABl (bv.get 0) (bv.get 1) (bv.get 2),ABm rfl hv,←ABn]
  simp only[Us,FB]
  rw[show((t:Int)+1)=((t+1:Nat):Int)by omega,wrap_i64 (by omega) (by omega),ABo]
  have st:[A8 h,A8 (List.replicate 8 0),Px w,A8 v].set 3 (A8 (rnd BD w t v))=[A8 h,A8 (List.replicate 8 0),Px w,A8 (rnd BD w t v)]:=rfl
  rw[st]
  exact ih (t+1) _ (by omega) (Wi bv t).1 (Wi bv t).2
end
section
open Go AM
theorem Iw {B:Type} {a b:Nat} (h:b≤a) (ha:a<2^62) (K:V→Option B):(AL .sub (.int .i64 (a:Int)) (.int .i64 (b:Int))).bind K=K (.int .i64 ((a-b:Nat):Int)):=by
 rw[JX,show(a:Int)-(b:Int)=((a-b:Nat):Int)by omega,wrap_i64 (by omega) (by omega)];rfl
theorem FU {B:Type} {a b:Nat} (h:a+b<2^62) (K:V→Option B):(AL .add (.int .i64 (a:Int)) (.int .i64 (b:Int))).bind K=K (.int .i64 ((a+b:Nat):Int)):=by
 rw[FB,show(a:Int)+(b:Int)=((a+b:Nat):Int)by omega,wrap_i64 (by omega) (by omega)];rfl
theorem U5 {B:Type} {a b:Nat} (h:a*b<2^62) (K:V→Option B):(AL .mul (.int .i64 (a:Int)) (.int .i64 (b:Int))).bind K=K (.int .i64 ((a*b:Nat):Int)):=by
 rw[QO,←Int.natCast_mul,wrap_i64 (by omega) (by omega)];rfl
theorem AH9 {f:Fl} {t s:TypeId} {xs:List V} {a b:Nat} (k:K P s= .slice t) (h1:a≤b) (h2:b≤xs.length):
 Kw P s (V.weak (.lst t f xs)) (some (.int .i64 (a:Int))) (some (.int .i64 (b:Int))) none=some (.lst t f.cut ((xs.take b).drop a)):=by
 have e1:(0:Int)≤(b:Int)∧b≤xs.length:=⟨by omega,h2⟩
 have e2:(0:Int)≤(a:Int)∧(a:Int)≤(b:Int):=⟨by omega,by omega⟩
 cases f<;>simp[Kw,V.weak,k,BP,e1,e2,Fl.cut,h1,h2]
section
variable {h:List V} {w:List Nat} {t:Nat}
variable (hw:h[2]?=some (Px w)) (lw:w.length=64) (bw:B32 w) (ht:t<64)
include hw lw bw ht
theorem ABp (h16:16≤t) (K:V→Option (V×List V)):
 OG (.ref 2 [] 261) (.int .i64 (t:Int)) h K=K (vw (sg0 (w.getD (t-15) 0))):=by
 have b:=bw.get (t-15)
 unfold OG
 refine(Iw (b:=15) (by omega) (by omega) _).trans<|(SB hw lw (t-15) (by omega) _).trans<|(trn b 7 (by omega) (by omega) _).trans ?_
 refine(Iw (b:=15) (by omega) (by omega) _).trans<|(SB hw lw (t-15) (by omega) _).trans<|(trn b 18 (by omega) (by omega) _).trans ?_
 refine(AB (u32_xor (Ae b) (Ae b)) _).trans ?_
 refine(Iw (b:=15) (by omega) (by omega) _).trans<|(SB hw lw (t-15) (by omega) _).trans ?_
 refine(AB (MW 3 (by omega)) _).trans ?_
 exact AB (u32_xor (Cc (Ae b) (Ae b)) (Hu _ b)) _
theorem ABq (h16:16≤t) (K:V→Option (V×List V)):
 OH (.ref 2 [] 261) (.int .i64 (t:Int)) h K=K (vw (sg1 (w.getD (t-2) 0))):=by
 have b:=bw.get (t-2)
 unfold OH
 refine(Iw (b:=2) (by omega) (by omega) _).trans<|(SB hw lw (t-2) (by omega) _).trans<|(trn b 17 (by omega) (by omega) _).trans ?_
 refine(Iw (b:=2) (by omega) (by omega) _).trans<|(SB hw lw (t-2) (by omega) _).trans<|(trn b 19 (by omega) (by omega) _).trans ?_
 refine(AB (u32_xor (Ae b) (Ae b)) _).trans ?_
 refine(Iw (b:=2) (by omega) (by omega) _).trans<|(SB hw lw (t-2) (by omega) _).trans ?_
 refine(AB (MW 10 (by omega)) _).trans ?_
 exact AB (u32_xor (Cc (Ae b) (Ae b)) (Hu _ b)) _
theorem ABr (h16:16≤t) (x y:Nat) (K:List V→Option (V×List V)):
 OI (.ref 2 [] 261) (.int .i64 (t:Int)) (vw x) (vw y) h K=K (h.set 2 (Px (w.set t (ad (ad (ad (w.getD (t-16) 0) (w.getD (t-7) 0)) x) y)))):=by
 unfold OI
 refine(Iw (b:=16) (by omega) (by omega) _).trans<|(SB hw lw (t-16) (by omega) _).trans ?_
 refine(Iw (b:=7) (by omega) (by omega) _).trans<|(SB hw lw (t-7) (by omega) _).trans ?_
 refine(AB (Ea _ _) _).trans ?_
 refine(AB (Ea _ _) _).trans ?_
 refine(AB (Ea _ _) _).trans ?_
 refine(AB (AH6 ht) _).trans ?_
 exact AB (AJo hw (by omega)) _
end
theorem Yz (n t:Nat) (w:List Nat):IX (n+1) t w=IX n (t+1) (w.set t (ad (ad (ad (w.getD (t-16) 0) (w.getD (t-7) 0)) (sg0 (w.getD (t-15) 0))) (sg1 (w.getD (t-2) 0)))):=rfl
theorem AE0 (p:List UInt8) (n t:Nat) (w:List Nat):IW p (n+1) t w=IW p n (t+1) (w.set t (wordAt p t)):=rfl
theorem AE1 (h:List Nat) (hh:h.length=8) (bh:B32 h):∀(n t:Nat) (w:List Nat),t+n=64→16≤t→B32 w→w.length=64→
 MP (.ref 0 [] 247) (.ref 1 [] 247) (.ref 2 [] 261) (.int .i64 (t:Int)) [A8 h,A8 (List.replicate 8 0),Px w]=
  some (A8 (KH (Oc BD (IX n t w) 64 0 h) 8 0 h),[]):=by
 intro n
 induction n with
 |zero=>
  intro t w ht h16 bw lw
  rw[OW,Rw,GR (by omega),BR,Uo]
  have z:zero P 247=A8 (List.replicate 8 0):=by rw[WY];rfl
  have l0:AZ [A8 h,A8 (List.replicate 8 0),Px w] 247 (.ref 0 [] 247)=some (A8 h):=CS (EN rfl)
  rw[l0,z]
  refine(AB (Dp (h:=[A8 h,A8 (List.replicate 8 0),Px w]++[A8 (List.replicate 8 0)]) rfl (by simp[Bd,LK,A8]) (by simp only[A8,V.under];exact EX _ _)) _).trans ?_
  exact AEz h w hh lw bw 64 0 h rfl bh hh
 |succ n ih=>
  intro t w ht h16 bw lw
  rw[OW,Rw,Fa (by omega),BQ,ABp rfl lw bw (by omega) h16,ABq rfl lw bw (by omega) h16,ABr rfl lw bw (by omega) h16,Un,Yz]
  refine(FU (b:=1) (by omega) _).trans ?_
  exact ih (t+1) _ (by omega) (by omega) (bw.set t (QS _ _)) (by simp[lw])
theorem AE2 (h:List Nat) (hh:h.length=8) (bh:B32 h) (p:List UInt8) (hp:p.length=64) (f:Fl):∀(n t:Nat) (w:List Nat),t+n=16→B32 w→w.length=64→
 MO (.lst 5 f (bytesOf p)) (.ref 0 [] 247) (.ref 1 [] 247) (.ref 2 [] 261) (.int .i64 (t:Int)) [A8 h,A8 (List.replicate 8 0),Px w]=
  some (A8 (KH (Oc BD (IX 48 16 (IW p n t w)) 64 0 h) 8 0 h),[]):=by
 intro n
 induction n with
 |zero=>
  intro t w ht bw lw
  rw[OX,Rt,GR (by omega),BR,Yo]
  exact AE1 h hh bh 48 16 w rfl (by omega) bw lw
 |succ n ih=>
  intro t w ht bw lw
  rw[OX,Rt,Fa (by omega),BQ,Yl,Ym]
  refine(U5 (a:=4) (by omega) _).trans<|(U5 (a:=4) (by omega) _).trans<|(FU (b:=4) (by omega) _).trans ?_
  refine(AB (AH9 (f:=f) (t:=5) (xs:=bytesOf p) Dc (a:=4*t) (b:=4*t+4) (by omega) (by simp[bytesOf];omega)) _).trans ?_
  rw[AEv (by omega) (by omega) rfl lw,Yn,AE0]
  refine(FU (b:=1) (by omega) _).trans ?_
  exact ih (t+1) _ (by omega) (bw.set t (KF p t)) (by simp[lw])
theorem AE3 {h:List Nat} (hh:h.length=8) (bh:B32 h) {p:List UInt8} (hp:p.length=64) (f:Fl):
 Cl 195 [A8 h,.lst 5 f (bytesOf p)] []=some (A8 (QT h p),[]):=by
 have tk:(Bd P 247 (A8 h)&&V.under (List.length ([]:List V)) (A8 h))=true:=by
  simp only[A8,V.under,EX,Bd,LK];simp
 rw[AEj,Yi,if_pos tk,Yj,Yk,WY,AH4]
 have z32:B32 (List.replicate 64 0):=fun x hx=>by rw[List.eq_of_mem_replicate hx];decide
 exact AE2 h hh bh p hp f 16 0 (List.replicate 64 0) rfl z32 rfl
end
section
open Go AM
section
variable {B:Type} {s e u:TypeId} {f:Fl} {xs:List V} {h:List V}
theorem Jb:∃g,V.weak (.lst e f xs)= .lst e g xs:=by cases f<;>exact⟨_,rfl⟩
theorem AIA (hu:P.underlying s=some (.slice u)) (K:V→Option B):(lenV P s (.lst e f xs)).bind K=K (.int .i64 (xs.length:Int)):=by
 simp[lenV,hu]
theorem ABs (hu:P.underlying s=some (.slice u)) (K:V→Option B):(lenV P s (V.weak (.lst e f xs))).bind K=K (.int .i64 (xs.length:Int)):=by
 obtain⟨g,hg⟩:=Jb (e:=e) (f:=f) (xs:=xs);rw[hg];exact AIA hu K
theorem AIB (hk:K P s= .slice e) {i:Nat} {v:V} (hv:xs[i]?=some v) (K:V→Option B):
 (AP P s (.lst e f xs) (.int .i64 (i:Int))).bind K=K (.rop e v):=by
 have hi:=SA hv
 have:inside (i:Int) xs.length=true:=by simp[inside,hi]
 simp[AP,hk,this,hv]
theorem AE4 (hk:K P s= .slice e) {i:Nat} {v:V} (hv:xs[i]?=some v) (K:V→Option B):
 (AP P s (V.weak (.lst e f xs)) (.int .i64 (i:Int))).bind K=K (.rop e v):=by
 obtain⟨g,hg⟩:=Jb (e:=e) (f:=f) (xs:=xs);rw[hg];exact AIB hk hv K
theorem ldR {v:V} (K:V→Option B):(AZ h e (.rop e v)).bind K=K v:=by rw[JY];rfl
theorem AE5 {v:V} (K:V→Option B):(DZ h e (.rop e v)).bind K=K v.weak:=by rw[DZ,JY];rfl
theorem AIC (hk:K P s= .slice e) (hf:f= .own∨f= .nil) {y:V} {ys:List V} (hy:Ad h y=some ys) (hc:AQ ys=true) (ht:JM P e ys=true) (hl:xs.length+ys.length≤2147483648) (hn:BK P depth e=false) (hne:f= .nil→ys.isEmpty=false:=by first|(intro h;cases h;done)|(intro _;rfl)):
 Dn P s h (.lst e f xs) y=some (.lst e .own (xs++ys)):=by
 rcases hf with rfl|rfl
 ·simp[Dn,hk,hy,hc,ht,hl,DV,Ci,hn]
 ·have:=hne rfl
  cases ys with
  |nil=>cases this
  |cons y0 ys0=>simp[Dn,hk,hy,hc,ht,hl,DV,Ci,hn]<;>exact decide_eq_true (by simpa using hl)
theorem AGq (hk:K P s= .slice e) {v:V} (ht:Bd P e v=true) (hc:v.clean=true) (hn:BK P depth e=false) (hz:∃z,zero P e=z):
 Be P s 1 [(0,v)]=some (.lst e .own [v]):=by
 simp[Be,hk,BL,ht,List.replicate,cp,hn,AQ,hc,Ci]
end
def bL (f:Fl) (l:List UInt8):V:= .lst 5 f (bytesOf l)
theorem Aj (l:List UInt8):(bytesOf l).length=l.length:=by simp[bytesOf]
theorem LP (a b:List UInt8):bytesOf (a++b)=bytesOf a++bytesOf b:=by simp[bytesOf]
theorem bytesOf_take (n:Nat) (a:List UInt8):(bytesOf a).take n=bytesOf (a.take n):=by simp[bytesOf,List.map_take]
theorem bytesOf_drop (n:Nat) (a:List UInt8):(bytesOf a).drop n=bytesOf (a.drop n):=by simp[bytesOf,List.map_drop]
theorem CX:∀l:List UInt8,AQ (bytesOf l)=true
 |[]=>rfl
 |x::l=>by simp only[bytesOf,List.map_cons,AQ];rw[show List.map _ l=bytesOf l from rfl,CX l];rfl
theorem MZ (x:Int):Bd P 5 (.int .u8 x)=true:=by simp[Bd,K_5,BZ,LH]
theorem Gi (l:List UInt8):JM P 5 (bytesOf l)=true:=by
 simp[JM,bytesOf,MZ]
theorem IY {B:Type} {f:Fl} {l:List UInt8} (K':V→Option B):(lenV P 172 (V.weak (bL f l))).bind K'=K' (.int .i64 (l.length:Int)):=by
 rw[bL,ABs F6,Aj]
theorem AJp {B:Type} {f:Fl} {l:List UInt8} (K':V→Option B):(lenV P 172 (bL f l)).bind K'=K' (.int .i64 (l.length:Int)):=by
 rw[bL,AIA F6,Aj]
theorem AID {f:Fl} {h:List V} {l m:List UInt8} {g:Fl} (hf:f= .own∨f= .nil) (hl:l.length+m.length≤2147483648) (hne:f= .nil→m.isEmpty=false:=by first|(intro h;cases h;done)|(intro _;rfl)):
 Dn P 172 h (bL f l) (bL g m)=some (bL .own (l++m)):=by
 rw[bL,AIC Dc hf (y:=bL g m) (ys:=bytesOf m) rfl (CX m) (Gi m) (by simpa [Aj]using hl) WX (fun h=>by have:=hne h;cases m<;>first|(cases this;done)|rfl),bL,LP]
theorem U6 (x:Nat) (hx:x<256):Be P 172 1 [(0,.int .u8 (x:Int))]=some (bL .own [UInt8.ofNat x]):=by
 rw[AGq Dc (MZ _) rfl WX ⟨_,rfl⟩,bL]
 simp[bytesOf,Nat.mod_eq_of_lt hx]
theorem app1 {B:Type} {f:Fl} {h:List V} {l:List UInt8} (hf:f= .own∨f= .nil) (hl:l.length+1≤2147483648) (x:Nat) (hx:x<256) (K':V→Option B):
 (Be P 172 1 [(0,.int .u8 (x:Int))]).bind (fun y=>(Dn P 172 h (bL f l) y).bind K')=K' (bL .own (l++[UInt8.ofNat x])):=by
 rw[U6 x hx]
 exact AB (AID hf (by simpa using hl) (fun _=>rfl)) K'
end
section
open Go AM
def part (p:Fl×List UInt8):V:=bL p.1 p.2
def parts (L:List (Fl×List UInt8)):List V:=L.map part
def flat (L:List (Fl×List UInt8)):List UInt8:=(L.map (·.2)).flatten
theorem Eb:∀l:List UInt8,AY (bytesOf l)=bytesOf l
 |[]=>rfl
 |x::l=>by simp only[bytesOf,List.map_cons,AY];rw[show List.map _ l=bytesOf l from rfl,Eb l];rfl
theorem QW {L:List (Fl×List UInt8)} {i:Nat} (hi:i<L.length):(parts L)[i]?=some (part L[i]):=by
 simp[parts,hi]
theorem Hw (p:Fl×List UInt8):∃g,(part p).weak=bL g p.2:=by
 obtain⟨f,l⟩:=p;exact Jb
theorem ABt {s e:TypeId} {id off len a:Nat} {p:List Nat} (k:K P s= .slice e) (h1:a≤len):
 Kw P s (V.weak (.win id p off len e)) (some (.int .i64 (a:Int))) none none=some (.win id p (off+a) (len-a) e):=by
 have e2:(0:Int)≤(a:Int)∧(a:Int)≤(len:Int):=⟨by omega,by omega⟩
 simp[Kw,V.weak,k,BP,e2,h1]
theorem Wj {e:TypeId} {s:TypeId} {off len:Nat} {xs ys:List V} {y:V} (k:K P s= .slice e) (hy:Ad [.row e xs] y=some ys) (hc:AQ ys=true) (ht:JM P e ys=true) (hn:BK P depth e=false) (hl:ys.length≤len):
 cpy P s [.row e xs] (.win 0 [] off len e) y=some (.int .i64 (ys.length:Int),[.row e (xs.take off++ys++xs.drop (off+ys.length))]):=by
 have m:min ys.length len=ys.length:=by omega
 simp[cpy,EK,k,hy,hc,ht,rd,V.at,V.items,wr,V.upd,Ci,hn,m]
theorem Iy (p:Fl×List UInt8) (L:List (Fl×List UInt8)):flat (p::L)=p.2++flat L:=rfl
theorem AE6 (fs:Fl) (L:List (Fl×List UInt8)) (hL:L.length<2147483648) (f:Fl) (N:Nat) (hN:N<2147483648) (h0:0<N):∀(n i:Nat) (done:List UInt8),i+n=L.length→N=done.length+(flat (L.drop i)).length→
 MN (.lst 5 fs []) (.win 0 [] 0 N 5) (.int .i64 (done.length:Int)) (.lst 172 f (parts L)) (.int .i64 (L.length:Int)) (.int .i64 (i:Int)) [.row 5 (bytesOf done++List.replicate (N-done.length) .undef)]=
  some (bL .own (done++flat (L.drop i)),[]):=by
 intro n
 induction n with
 |zero=>
  intro i done hi hn
  have hd:L.drop i=[]:=by simp;omega
  rw[hd]at hn⊢
  simp only[flat,List.map_nil,List.flatten_nil,List.length_nil,Nat.add_zero,List.append_nil]at hn⊢
  subst hn
  rw[OD,OC,GR (by omega),BR,Um]
  have c:Ad [V.row 5 (bytesOf done)] (.win 0 [] 0 done.length 5)=some (bytesOf done):=by
   simp[Ad,rd,V.at,V.items,Aj]
   rw[List.take_of_length_le (by simp[Aj])]
  simp[Pq,c,CX,Eb,bL,Nat.ble,Nat.blt,Nat.ble_eq]
  exact List.ne_nil_of_length_pos h0
 |succ n ih=>
  intro i done hi hn
  have hlt:i<L.length:=by omega
  rw[OD,OC,Fa (by omega),BQ,Ui]
  refine(AIB Oa (QW hlt) _).trans<|(AE5 _).trans ?_
  obtain⟨g,hg⟩:=Hw L[i]
  rw[hg]
  rw[Uj]
  refine(AB (ABt Dc (by omega)) _).trans ?_
  refine(AB (Wj (ys:=[]) Dc (by cases fs<;>rfl) rfl rfl WX (Nat.zero_le _)) _).trans ?_
  refine(FU (b:=0) (by simp;omega) _).trans ?_
  simp only[List.length_nil,Nat.add_zero,Nat.zero_add,List.append_nil,List.take_append_drop]
  rw[Uk]
  have hd:flat (L.drop i)=L[i].2++flat (L.drop (i+1)):=by rw[List.drop_eq_getElem_cons hlt,Iy]
  rw[hd]at hn⊢
  rw[List.length_append]at hn
  refine(AB (ABt Dc (by omega)) _).trans ?_
  refine(AB (Wj (ys:=bytesOf L[i].2) Dc rfl (CX _) (Gi _) WX (by rw[Aj];omega)) _).trans ?_
  rw[Aj]
  refine(FU (by omega) _).trans ?_
  rw[Ul]
  refine(FU (b:=1) (by omega) _).trans ?_
  have:=ih (i+1) (done++L[i].2) (by omega) (by simp;omega)
  rw[List.append_assoc,List.length_append]at this
  rw[←this]
  congr 1
  simp[LP,Aj,List.take_append,List.drop_append,List.take_of_length_le,List.drop_eq_nil_of_le]
  omega
theorem AMM {R:Type} {n:Nat} {h:List V} (hn:n≤2147483648) (k:V→List V→Option R):mnz P 0 210 [.int .i64 (n:Int)] h k=k (.win h.length [] 0 n 5) (h++[.row 5 (List.replicate n .undef)]):=by
 have:(0:Nat)=0∧(0:Int)≤(n:Int)∧(n:Int)≤(DV:Int):=⟨rfl,by omega,by simp only[DV];omega⟩
 unfold mnz
 refine(if_pos this).trans ?_
 have key:∀e:TypeId,e=5→k (.win h.length [] 0 (n:Int).toNat e) (h++[.row e (List.replicate (n:Int).toNat .undef)])=k (.win h.length [] 0 n 5) (h++[.row 5 (List.replicate n .undef)]):=by rintro _ rfl;rfl
 exact key _ (by kernel_rfl)
theorem AE7 {s e:TypeId} {id off len b:Nat} {p:List Nat} (k:K P s= .slice e) (h1:b≤len):
 Kw P s (.win id p off len e) none (some (.int .i64 (b:Int))) (some (.int .i64 (b:Int)))=some (.win id p off b e):=by
 have e2:(0:Int)≤(b:Int)∧(b:Int)≤(len:Int):=⟨by omega,by omega⟩
 simp[Kw,V.weak,k,BP,e2,h1]
theorem AE8 (fs:Fl) (L:List (Fl×List UInt8)) (hL:L.length<2147483648) (hL0:0<L.length) (f:Fl) (hN:(flat L).length<2147483648) (h0:0<(flat L).length):∀(n i acc:Nat),i+n=L.length→acc+(flat (L.drop i)).length=(flat L).length→
 ML (.lst 172 f (parts L)) (.lst 5 fs []) (.int .i64 (acc:Int)) (V.weak (.lst 172 f (parts L))) (.int .i64 (L.length:Int)) (.int .i64 (i:Int)) []=
  some (bL .own (flat L),[]):=by
 intro n
 induction n with
 |zero=>
  intro i acc hi hn
  have hd:L.drop i=[]:=by simp;omega
  rw[hd]at hn
  have e0:(flat ([]:List (Fl×List UInt8))).length=0:=rfl
  rw[OE,OB,GR (by omega),BR,Uf]
  have hacc:acc=(flat L).length:=by omega
  subst hacc
  rw[AMM (by omega)]
  refine(AB (AE7 Dc (Nat.le_refl _)) _).trans ?_
  obtain⟨p,L',rfl⟩:=List.exists_cons_of_length_pos hL0
  rw[Ug]
  refine(AE4 (i:=0) (v:=part p) Oa rfl _).trans<|(AE5 _).trans ?_
  obtain⟨g,hg⟩:=Hw p
  rw[hg]
  refine(AB (Wj (ys:=bytesOf p.2) Dc rfl (CX _) (Gi _) WX (by rw[Aj,Iy,List.length_append];omega)) _).trans ?_
  rw[Uh]
  have sl:Kw P 245 (.lst 172 f (parts (p::L'))) (some (.int .i64 1)) none none=some (.lst 172 f.cut (parts L')):=by
   have e1:(1:Int)≤((parts L').length:Int)+1:=by omega
   simp[Kw,Oa,BP,parts,e1]
   constructor
   ·omega
   ·rw[List.take_of_length_le (by simp)]
  refine(AB sl _).trans ?_
  refine(AIA MS _).trans ?_
  have:=AE6 fs L' (by simp at hL;omega) f.cut (flat (p::L')).length hN h0 L'.length 0 p.2 (by omega) (by rw[Iy,List.length_append];rfl)
  simp only[List.drop_zero]at this
  rw[←Iy]at this
  refine Eq.trans ?_ this
  simp only[parts,List.length_map,Aj,List.length_nil,List.nil_append,List.take_zero,Nat.zero_add,List.drop_replicate]
  rfl
 |succ n ih=>
  intro i acc hi hn
  have hlt:i<L.length:=by omega
  have hd:flat (L.drop i)=L[i].2++flat (L.drop (i+1)):=by rw[List.drop_eq_getElem_cons hlt,Iy]
  rw[hd,List.length_append]at hn
  rw[OE,OB,Fa (by omega),BQ,Ub]
  refine(AE4 Oa (QW hlt) _).trans<|(AE5 _).trans ?_
  obtain⟨g,hg⟩:=Hw L[i]
  rw[hg,Uc]
  refine IY _ |>.trans ?_
  refine(AB (JX _ _ _) _).trans ?_
  rw[wrap_i64 (by omega) (by omega)]
  refine(AB (b_gtr _ _ _) _).trans ?_
  rw[decide_eq_false (by omega),BR,Ud]
  refine AJp _ |>.trans ?_
  refine(FU (by omega) _).trans ?_
  rw[Ue]
  refine(FU (b:=1) (by omega) _).trans ?_
  exact ih (i+1) (acc+L[i].2.length) (by omega) (by omega)
theorem AE9 (fs:Fl) (L:List (Fl×List UInt8)) (hL:L.length<2147483648) (f:Fl) (hN:(flat L).length<2147483648) (h0:0<(flat L).length):
 Cl 194 [.lst 172 f (parts L),.lst 5 fs []] []=some (bL .own (flat L),[]):=by
 have hL0:0<L.length:=by
  cases L with
  |nil=>cases h0
  |cons=>simp
 have lp:(parts L).length=L.length:=by simp[parts]
 rw[AEi,Yc,Yd]
 refine(ABs MS _).trans ?_
 rw[lp]
 refine(AB (b_eql _ _ _) _).trans ?_
 rw[decide_eq_false (by omega),BR,Ye]
 refine(ABs MS _).trans ?_
 rw[lp]
 refine(AB (b_eql _ _ _) _).trans ?_
 by_cases h1:L.length=1
 ·rw[decide_eq_true (by omega),BQ,Yf]
  match L,h1 with
  |[p],_=>
   refine(AIB (i:=0) (v:=part p) Oa rfl _).trans<|(AE5 _).trans ?_
   obtain⟨g,hg⟩:=Hw p
   have e:flat [p]=p.2:=by simp[flat]
   rw[e]at hN h0⊢
   rw[hg]
   have a:=AID (f:= .nil) (h:=[]) (l:=[]) (m:=p.2) (g:=g) (Or.inr rfl) (by simp;omega) (fun _=>by cases hp:p.2 with|nil=>rw[hp]at h0;simp at h0|cons=>rfl)
   refine(AB a _).trans ?_
   refine(AB (show C9 [] (bL .own ([]++p.2))=some (.win 0 [] 0 p.2.length 5,[.row 5 (bytesOf p.2)])by simp[C9,bL,Aj]) _).trans ?_
   have c:Ad [V.row 5 (bytesOf p.2)] (.win 0 [] 0 p.2.length 5)=some (bytesOf p.2):=by
    simp[Ad,rd,V.at,V.items,Aj]
    rw[List.take_of_length_le (by simp[Aj])]
   simp[Pq,c,CX,Eb,bL,Nat.ble,Nat.blt,Nat.ble_eq]
   exact List.ne_nil_of_length_pos h0
 ·rw[decide_eq_false (by omega),BR,Yg,Yh]
  refine(ABs F6 _).trans ?_
  refine(AB (b_gtr _ _ _) _).trans ?_
  simp only[jn,List.length_nil]
  rw[decide_eq_false (by omega),BR,Ua]
  refine(ABs MS _).trans ?_
  rw[lp]
  exact AE8 fs L hL hL0 f hN h0 L.length 0 0 (by omega) (by simp)
end
section
open Go AM
def KI (n:Nat):Nat:=(120-n%64)%64
def lb (n i:Nat):UInt8:=UInt8.ofNat (n/2^(56-8*i)%256)
def Fb (n:Nat):Nat→Nat→List UInt8
 |0,_=>[]
 |k+1,i=>lb n i::Fb n k (i+1)
def ABu (l:List UInt8):List UInt8:=(l++[128])++List.replicate (KI (l.length+1)) 0++Fb (8*l.length) 8 0
def blocks:Nat→List Nat→List UInt8→List Nat
 |0,h,_=>h
 |n+1,h,p=>blocks n (QT h (p.take 64)) (p.drop 64)
def dg (st:List Nat) (i:Nat):UInt8:=UInt8.ofNat (st.getD (i/4) 0/2^(24-8*(i%4))%256)
def Ec (st:List Nat):Nat→Nat→List UInt8→List UInt8
 |0,_,w=>w
 |n+1,i,w=>Ec st n (i+1) (w.set i (dg st i))
def Dq:List Nat:=(match QF with|V.agg _ l=>l|_=>[]).map fun v=>match v with|V.int _ n=>n.toNat|_=>0
def AJq (l:List UInt8):List Nat:=blocks ((ABu l).length/64) Dq (ABu l)
def TV (l:List UInt8):List UInt8:=Ec (AJq l) 32 0 (List.replicate 32 0)
def BH (l:List UInt8):V:= .agg 65 (bytesOf l)
theorem AFA:QF=A8 Dq:=by kernel_rfl
theorem ABv:Dq.length=8:=by kernel_rfl
theorem AGr:B32 Dq:=by
 have h:Dq.all (fun x=>decide (x<4294967296))=true:=by kernel_rfl
 intro x hx
 have:=List.all_eq_true.1 h x hx
 exact of_decide_eq_true this
theorem Jc {h:List Nat} (p:List UInt8) (bh:B32 h) (hh:h.length=8):B32 (QT h p)∧(QT h p).length=8:=Yy _ _ _ bh hh
theorem QX (st:List Nat):∀(n i:Nat) (w:List UInt8),(Ec st n i w).length=w.length
 |0,_,_=>rfl
 |n+1,i,w=>by rw[Ec,QX st n];simp
theorem Jd (l:List UInt8):(TV l).length=32:=by rw[TV,QX];rfl
theorem Zt (l:List UInt8) (i:Nat) (x:UInt8):(bytesOf l).set i (.int .u8 (x.toNat:Int))=bytesOf (l.set i x):=by
 simp[bytesOf,List.map_set]
theorem AJr (x:Nat) (hx:x<256):(V.int .u8 (x:Int))= .int .u8 ((UInt8.ofNat x).toNat:Int):=by
 simp[Nat.mod_eq_of_lt hx]
theorem LQ (n:Nat):∀l:List UInt8,Aa n (bytesOf l)=true
 |[]=>rfl
 |x::l=>by simp only[bytesOf,List.map_cons,Aa];rw[show List.map _ l=bytesOf l from rfl,LQ n l];rfl
theorem Oe (n:Nat):∀l:List UInt8,DC n (bytesOf l)=true
 |[]=>rfl
 |x::l=>by simp only[bytesOf,List.map_cons,DC];rw[show List.map _ l=bytesOf l from rfl,Oe n l];rfl
theorem LU (h:List V):∀l:List UInt8,CB h (bytesOf l)=bytesOf l
 |[]=>rfl
 |x::l=>by simp only[bytesOf,List.map_cons,CB];rw[show List.map _ l=bytesOf l from rfl,LU h l];rfl
theorem LV (h:List V):∀l:List UInt8,AA h (bytesOf l)=bytesOf l
 |[]=>rfl
 |x::l=>by simp only[bytesOf,List.map_cons,AA];rw[show List.map _ l=bytesOf l from rfl,LV h l];rfl
theorem QY (h:List V):∀l:List Nat,AA h (Ja l)=Ja l
 |[]=>rfl
 |x::l=>by simp only[Ja,List.map_cons,AA];rw[show List.map vw l=Ja l from rfl,QY h l];rfl
theorem ABw (h:List V) (l:List Nat):V.reify h (A8 l)=A8 l:=by simp only[A8,V.reify,QY]
theorem U7 (h:List V) (f:Fl) (l:List UInt8):∃g,V.reify h (bL f l)=bL g l:=by
 cases f<;>simp only[bL,V.reify,LV]<;>exact⟨_,rfl⟩
theorem Je (n:Nat) (h:List V) (l:List UInt8):AV n h (BH l)=some (BH l,h.take n):=by
 simp only[AV,BH,V.unmut,LU,V.norm,Eb,V.clean,CX,V.over,Oe,Bool.and_self,if_true]
theorem Wl:zero P 66=BH (List.replicate 32 0):=by rw[AGh];rfl
theorem Og (l:List UInt8):Bd P 66 (BH l)=true:=by simp[Bd,AEm,BH]
theorem Oh (n:Nat) (l:List UInt8):(BH l).under n=true:=by simp only[BH,V.under];exact LQ _ _
theorem AJs (l:List Nat):Bd P 247 (A8 l)=true:=by simp[Bd,LK,A8]
theorem AJt (n:Nat) (l:List Nat):(A8 l).under n=true:=by simp only[A8,V.under];exact EX _ _
theorem AJu {id i:Nat} (hi:i<32):AP P 66 (.ref id [] 66) (.int .i64 (i:Int))=some (.ref id [i] 5):=by
 have:inside (i:Int) 32=true:=by simp[inside];omega
 simp[AP,AEm,this]
theorem AJv {h:List V} {id i x:Nat} {l:List UInt8} (hh:h[id]?=some (BH l)) (hi:i<l.length) (hx:x<256):FQ P h 5 (.ref id [i] 5) (.int .u8 (x:Int))=some (h.set id (BH (l.set i (UInt8.ofNat x)))):=by
 rw[MV hh (KG hi) (MZ _) rfl,AJr x hx,Zt];rfl
theorem AIE {h:List V} {st:List Nat} {w:List UInt8} {i:Nat} (hs:h[1]?=some (A8 st)) (hst:st.length=8) (hw:h[2]?=some (BH w)) (lw:w.length=32) (hi:i<32) (K:List V→Option (V×List V)):
 Nv (.ref 1 [] 247) (.ref 2 [] 66) (.int .i64 (i:Int)) h K=K (h.set 2 (BH (w.set i (dg st i)))):=by
 unfold Nv
 refine(AB (Uz _ _ _ (by omega)) _).trans ?_
 rw[show(i:Int).tdiv 4=((i/4:Nat):Int)by rfl,wrap_i64 (by omega) (by omega)]
 refine(at8 hs hst (i/4) (by omega) _).trans ?_
 refine(AB (LM _ _ _ (by omega)) _).trans ?_
 rw[show(i:Int).tmod 4=((i%4:Nat):Int)by rfl]
 refine(U5 (a:=8) (by omega) _).trans<|(Iw (a:=24) (by omega) (by omega) _).trans ?_
 refine(AB (CV Rx ..) _).trans ?_
 rw[wrap_u64 (by omega) (by omega)]
 refine(AB (MW _ (by omega)) _).trans ?_
 refine(AB (CV LH ..) _).trans ?_
 rw[Gh]
 refine(AB (AJu hi) _).trans ?_
 exact AB (AJv hw (by omega) (Nat.mod_lt _ (by decide))) _
theorem AJw {st:List Nat} (hst:st.length=8) (z:List UInt8):∀(n i:Nat) (w:List UInt8),i+n=32→w.length=32→
 MH (.ref 0 [] 66) (.ref 1 [] 247) (.ref 2 [] 66) (.int .i64 (i:Int)) [BH z,A8 st,BH w]=some (BH (Ec st n i w),[]):=by
 intro n
 induction n with
 |zero=>
  intro i w hi hw
  rw[Nw,Nu,GR (by omega),BR,UZ]
  refine(AB (CS (v:=BH w) (EN rfl)) _).trans ?_
  refine(AB (Dp (w:=BH z) rfl (Og _) (Oh _ _)) _).trans ?_
  refine(AB (CS (v:=BH w) (EN rfl)) _).trans ?_
  exact Je _ _ _
 |succ n ih=>
  intro i w hi hw
  rw[Nw,Nu,Fa (by omega),BQ,UX,AIE rfl hst rfl hw (by omega),UY]
  refine(FU (b:=1) (by omega) _).trans ?_
  exact ih (i+1) _ (by omega) (by simp[hw])
theorem AJx:∀(n:Nat) (f:Fl) (p:List UInt8) (st:List Nat),p.length=64*n→p.length<2147483648→B32 st→st.length=8→
 MG (.ref 0 [] 66) (bL f p) (.ref 1 [] 247) [BH (List.replicate 32 0),A8 st]=some (BH (Ec (blocks n st p) 32 0 (List.replicate 32 0)),[]):=by
 intro n
 induction n with
 |zero=>
  intro f p st hp hlt bs hst
  rw[Ny,Ns]
  refine IY _ |>.trans ?_
  refine(AB (b_gtr _ _ _) _).trans ?_
  rw[decide_eq_false (by omega),BR,UU,UW,Wl]
  exact AJw hst _ 32 0 _ rfl rfl
 |succ n ih=>
  intro f p st hp hlt bs hst
  rw[Ny,Ns]
  refine IY _ |>.trans ?_
  refine(AB (b_gtr _ _ _) _).trans ?_
  rw[decide_eq_true (by omega),BQ,UQ]
  refine(AB (CS (v:=A8 st) (EN rfl)) _).trans ?_
  have sl:Kw P 172 (V.weak (bL f p)) none (some (.int .i64 64)) none=some (bL f.cut (p.take 64)):=by
   have:=AH9 (f:=f) (t:=5) (xs:=bytesOf p) Dc (a:=0) (b:=64) (by omega) (by rw[Aj];omega)
   rw[List.drop_zero,bytesOf_take]at this
   rw[bL,bL,←this]
   obtain⟨g,hg⟩:=Jb (e:=5) (f:=f) (xs:=bytesOf p)
   rw[hg]
   have e1:(64:Int)≤p.length:=by omega
   simp[Kw,Dc,BP,Aj,e1]
  refine(AB sl _).trans ?_
  obtain⟨g,hg⟩:=U7 [BH (List.replicate 32 0),A8 st] f.cut (p.take 64)
  have e:AA [BH (List.replicate 32 0),A8 st] [A8 st,bL f.cut (p.take 64)]=[A8 st,bL g (p.take 64)]:=by
   simp only[AA,ABw,hg]
  rw[e]
  refine(AB (AE3 hst bs (by rw[List.length_take];omega) g) _).trans ?_
  refine(AB (Dp (w:=A8 st) rfl (AJs _) (AJt _ _)) _).trans ?_
  rw[UR]
  have sl2:Kw P 172 (bL f p) (some (.int .i64 64)) none none=some (bL f.cut (p.drop 64)):=by
   have e1:(64:Int)≤p.length:=by omega
   simp[Kw,bL,Dc,BP,Aj,e1,bytesOf_drop]
   rw[List.take_of_length_le (by rw[Aj];omega),bytesOf_drop]
  refine(AB sl2 _).trans ?_
  exact ih f.cut (p.drop 64) (QT st (p.take 64)) (by rw[List.length_drop];omega) (by rw[List.length_drop];omega) (Jc _ bs hst).1 (Jc _ bs hst).2
theorem AJy (N:Nat) (hN:N<2147483648):∀(n i:Nat) (p:List UInt8),i+n=8→(p.length+n)%64=0→p.length<2147483000→
 MF (.ref 0 [] 66) (bL .own p) (.int .u64 ((8*N:Nat):Int)) (.int .i64 (i:Int)) [BH (List.replicate 32 0)]=
  some (BH (Ec (blocks ((p++Fb (8*N) n i).length/64) Dq (p++Fb (8*N) n i)) 32 0 (List.replicate 32 0)),[]):=by
 intro n
 induction n with
 |zero=>
  intro i p hi hp hl
  rw[Nz,Ro,GR (by omega),BR,UO,AFA]
  refine(AB JY _).trans ?_
  refine(AB (Dp (w:=zero P 247) rfl (AJs _) (AJt _ _)) _).trans ?_
  simp only[Fb,List.append_nil]
  exact AJx (p.length/64) .own p Dq (by omega) (by omega) AGr ABv
 |succ n ih=>
  intro i p hi hp hl
  rw[Nz,Ro,Fa (by omega),BQ,YM,YN]
  refine(U5 (a:=8) (by omega) _).trans<|(Iw (a:=56) (by omega) (by omega) _).trans ?_
  refine(AB (CV Rx ..) _).trans ?_
  rw[wrap_u64 (by omega) (by omega)]
  have hs:AL .shr (.int .u64 ((8*N:Nat):Int)) (.int .u64 ((56-8*i:Nat):Int))=some (.int .u64 ((8*N/2^(56-8*i):Nat):Int)):=by
   rw[U0 _ _ _ _ (by omega)]
   have:min (((56-8*i:Nat):Int)).toNat (IntKind.u64).bits=56-8*i:=by simp[IntKind.bits];omega
   rw[this,Ob]
  refine(AB hs _).trans ?_
  refine(AB (CV LH ..) _).trans ?_
  rw[Gh]
  refine(app1 (Or.inl rfl) (by omega) _ (Nat.mod_lt _ (by decide)) _).trans ?_
  rw[UN]
  refine(FU (b:=1) (by omega) _).trans ?_
  have:=ih (i+1) (p++[lb (8*N) i]) (by omega) (by simp;omega) (by simp;omega)
  rw[List.append_assoc,List.singleton_append]at this
  exact this
theorem AJz (N:Nat) (hN:N<2147483648):∀(n:Nat) (p:List UInt8),KI p.length=n→p.length+n<2147482000→
 MC (.ref 0 [] 66) (bL .own p) (.int .u64 ((8*N:Nat):Int)) [BH (List.replicate 32 0)]=
  some (BH (Ec (blocks ((p++List.replicate n 0++Fb (8*N) 8 0).length/64) Dq (p++List.replicate n 0++Fb (8*N) 8 0)) 32 0 (List.replicate 32 0)),[]):=by
 intro n
 induction n with
 |zero=>
  intro p hp hl
  rw[N7,Rn]
  refine IY _ |>.trans ?_
  refine(AB (LM _ _ _ (by omega)) _).trans ?_
  rw[show(p.length:Int).tmod 64=((p.length%64:Nat):Int)by rfl]
  refine(AB (b_neq _ _ _) _).trans ?_
  simp only[KI]at hp
  rw[decide_eq_false (by omega),BR,YL,List.replicate_zero,List.append_nil]
  exact AJy N hN 8 0 p rfl (by omega) (by omega)
 |succ n ih=>
  intro p hp hl
  rw[N7,Rn]
  refine IY _ |>.trans ?_
  refine(AB (LM _ _ _ (by omega)) _).trans ?_
  rw[show(p.length:Int).tmod 64=((p.length%64:Nat):Int)by rfl]
  refine(AB (b_neq _ _ _) _).trans ?_
  simp only[KI]at hp
  rw[decide_eq_true (by omega),BQ,YK]
  refine(app1 (Or.inl rfl) (by omega) 0 (by omega) _).trans ?_
  have:=ih (p++[0]) (by simp only[KI,List.length_append,List.length_cons,List.length_nil];omega) (by simp;omega)
  rw[List.append_assoc p [0],List.singleton_append]at this
  exact this
theorem Wn (h:List V) (p:Fl×List UInt8):∃g,V.reify h (part p)=part (g,p.2):=U7 h p.1 p.2
theorem Jf (h:List V):∀L:List (Fl×List UInt8),∃L',AA h (parts L)=parts L'∧flat L'=flat L∧L'.length=L.length
 |[]=>⟨[],rfl,rfl,rfl⟩
 |p::L=>by
  obtain⟨L',e1,e2,e3⟩:=Jf h L
  obtain⟨g,hg⟩:=Wn h p
  refine⟨(g,p.2)::L',?_,?_,by simp[e3]⟩
  ·simp only[parts,List.map_cons,AA,hg];exact congrArg _ e1
  ·rw[Iy,Iy,e2]
theorem LW (h:List V) (f:Fl) (L:List (Fl×List UInt8)):∃f' L',V.reify h (.lst 172 f (parts L))= .lst 172 f' (parts L')∧flat L'=flat L∧L'.length=L.length:=by
 obtain⟨L',e1,e2,e3⟩:=Jf h L
 cases f
 case lent=>exact⟨.lent,L',by simp only[V.reify,e1],e2,e3⟩
 all_goals exact⟨.sh,L,rfl,rfl,rfl⟩
theorem U8 (L:List (Fl×List UInt8)) (hL:L.length<2147483648) (f:Fl) (hN:(flat L).length<2147480000) (h0:0<(flat L).length):
 Cl 176 [.lst 172 f (parts L)] []=some (BH (TV (flat L)),[]):=by
 obtain⟨f',L',e1,e2,e3⟩:=LW [BH (List.replicate 32 0)] f L
 have er:AA [BH (List.replicate 32 0)] [.lst 172 f (parts L),.lst 5 .nil []]=[.lst 172 f' (parts L'),.lst 5 .sh []]:=by
  simp only[AA,e1];rfl
 rw[AEU,YG,YH,Wl]
 simp only[List.nil_append]
 rw[er]
 refine(AB (AE9 .sh L' (by omega) f' (by rw[e2];omega) (by rw[e2];exact h0)) _).trans ?_
 rw[e2,YI]
 refine IY _ |>.trans ?_
 refine(AB (CV ES ..) _).trans ?_
 rw[wrap_u64 (by omega) (by omega)]
 refine(AB (QO _ _ _) _).trans ?_
 rw[wrap_u64 (by omega) (by omega),show((flat L).length:Int)*8=((8*(flat L).length:Nat):Int)by omega,YJ]
 refine(app1 (Or.inl rfl) (by omega) 128 (by omega) _).trans ?_
 have z:KI ((flat L).length+1)<64:=Nat.mod_lt _ (by decide)
 exact AJz (flat L).length (by omega) (KI ((flat L).length+1)) (flat L++[128]) (by simp) (by simp;omega)
end
section
open Go AM
theorem SC {a b i:Nat} (h:b<2^i):a*2^i|||b=a*2^i+b:=by
 have:=Nat.shiftLeft_add_eq_or_of_lt h a
 rw[Nat.shiftLeft_eq]at this;exact this.symm
theorem AFB {x n:Nat} (hx:x<4294967296) (h1:1≤n) (h2:n≤31):DX x n=x/2^n+x%2^n*2^(32-n):=by
 have e:(4294967296:Nat)=2^n*2^(32-n):=by rw[←Nat.pow_add,show n+(32-n)=32 by omega]
 have hd:x/2^n<2^(32-n):=by
  rw[Nat.div_lt_iff_lt_mul (Nat.pow_pos (by decide)),Nat.mul_comm,←e];exact hx
 unfold DX
 rw[show x*2^(32-n)%4294967296=x%2^n*2^(32-n)by rw[e,Nat.mul_mod_mul_right],SC hd,Nat.add_comm]
theorem AFC {a b c d:Nat} (ha:a<256) (hb:b<256) (hc:c<256) (hd:d<256):
 ((a*2^24%4294967296|||b*2^16%4294967296)|||c*2^8%4294967296)|||d=a*16777216+b*65536+c*256+d:=by
 have e1:a*2^24%4294967296=a*2^24:=Nat.mod_eq_of_lt (by omega)
 have e2:b*2^16%4294967296=b*2^16:=Nat.mod_eq_of_lt (by omega)
 have e3:c*2^8%4294967296=c*2^8:=Nat.mod_eq_of_lt (by omega)
 rw[e1,e2,e3,SC (by omega),show a*2^24+b*2^16=(a*256+b)*2^16 by omega,SC (by omega),show(a*256+b)*2^16+c*2^8=(a*65536+b*256+c)*2^8 by omega,SC (by omega)]
theorem AJ0 {e f g:Nat} (he:e<4294967296) (hf:f<4294967296) (hg:g<4294967296):(e&&& f) ^^^ ((4294967295-e)&&& g)=g ^^^ (e&&& (f ^^^ g)):=by
 have hb:∀i,(4294967295-e).testBit i=(decide (i<32)&& !e.testBit i):=fun i=>by
  rw[←Nat.testBit_two_pow_sub_succ (n:=32) he i,show 4294967295-e=2^32-(e+1)by omega]
 apply Nat.eq_of_testBit_eq
 intro i
 simp only[Nat.testBit_xor,Nat.testBit_and,hb]
 by_cases hi:i<32
 ·simp only[hi,decide_true,Bool.true_and]
  cases e.testBit i<;>cases f.testBit i<;>cases g.testBit i<;>rfl
 ·have:g.testBit i=false:=Nat.testBit_lt_two_pow (Nat.lt_of_lt_of_le hg (Nat.pow_le_pow_right (n:=2) (i:=32) (by decide) (by omega)))
  have:f.testBit i=false:=Nat.testBit_lt_two_pow (Nat.lt_of_lt_of_le hf (Nat.pow_le_pow_right (n:=2) (i:=32) (by decide) (by omega)))
  simp[*]
theorem AJ1 (a b c:Nat):((a&&& b) ^^^ (a&&& c)) ^^^ (b&&& c)=(a&&& b)|||(c&&& (a|||b)):=by
 apply Nat.eq_of_testBit_eq
 intro i
 simp only[Nat.testBit_xor,Nat.testBit_and,Nat.testBit_or]
 cases a.testBit i<;>cases b.testBit i<;>cases c.testBit i<;>rfl
theorem ad4 (a b c d:Nat):ad (ad (ad a b) c) d=(a+b+c+d)%4294967296:=by simp only[ad];omega
theorem ad5 (a b c d e:Nat):ad (ad (ad (ad a b) c) d) e=(a+b+c+d+e)%4294967296:=by simp only[ad];omega
theorem AMN (a b:Nat):ad (a%4294967296) b=(a+b)%4294967296:=by simp only[ad];omega
theorem AMO (a b:Nat):ad b (a%4294967296)=(b+a)%4294967296:=by simp only[ad];omega
def fv (w:List Nat) (t:Nat):Nat:=ad (ad (ad (w.getD (t-16) 0) (w.getD (t-7) 0)) (sg0 (w.getD (t-15) 0))) (sg1 (w.getD (t-2) 0))
def U9 (p:List UInt8):Nat→Nat→List Nat→List Nat
 |0,_,w=>w
 |n+1,t,w=>U9 p n (t+1) (w++[wordAt p t])
def QZ:Nat→Nat→List Nat→List Nat
 |0,_,w=>w
 |n+1,t,w=>QZ n (t+1) (w++[fv w t])
theorem IZ {l:List Nat} {t x:Nat} (ht:t<l.length):(l.set t x).take (t+1)=l.take t++[x]:=by
 rw[List.take_add_one]
 simp[ht,List.take_set_of_le]
theorem VA (p:List UInt8):∀(n t:Nat) (w:List Nat),t+n≤w.length→U9 p n t (w.take t)=(IW p n t w).take (t+n)
 |0,_,_,_=>rfl
 |n+1,t,w,h=>by
  rw[U9,IW,←IZ (by omega),VA p n (t+1) (w.set t (wordAt p t)) (by simp;omega),show t+1+n=t+(n+1)by omega]
theorem getD_take {w:List Nat} {i t:Nat} (h:i<t):(w.take t).getD i 0=w.getD i 0:=by
 simp[List.getD_eq_getElem?_getD,List.getElem?_take,h]
theorem VB:∀(n t:Nat) (w:List Nat),16≤t→t+n≤w.length→QZ n t (w.take t)=(IX n t w).take (t+n)
 |0,_,_,_,_=>rfl
 |n+1,t,w,h16,h=>by
  have e:fv (w.take t) t=fv w t:=by simp only[fv];rw[getD_take (by omega),getD_take (by omega),getD_take (by omega),getD_take (by omega)]
  rw[QZ,Yz,e,←IZ (by omega)]
  exact(VB n (t+1) (w.set t (fv w t)) (by omega) (by simp;omega)).trans (by rw[show t+1+n=t+(n+1)by omega];rfl)
theorem AIF (p:List UInt8):QZ 48 16 (U9 p 16 0 [])=IX 48 16 (IW p 16 0 (List.replicate 64 0)):=by
 have z32:B32 (List.replicate 64 0):=fun x hx=>by rw[List.eq_of_mem_replicate hx];decide
 have a:=U1 p 16 0 (List.replicate 64 0) z32 (by simp)
 have b:=U2 48 16 _ a.1 a.2
 have h1:=VA p 16 0 (List.replicate 64 0) (by simp)
 rw[List.take_zero]at h1
 rw[h1,VB 48 16 _ (by omega) (by omega),List.take_of_length_le (by omega)]
end
section
open Go AM
def uw (n:Nat):V:= .int .u64 (n:Int)
def Oi (l:List Nat):List V:=l.map uw
def uL (f:Fl) (l:List Nat):V:= .lst 132 f (Oi l)
theorem ER {B:Type} {a b:Nat} (h:a+b<18446744073709551616) (K:V→Option B):(AL .add (.int .u64 (a:Int)) (.int .u64 (b:Int))).bind K=K (.int .u64 ((a+b:Nat):Int)):=by
 rw[FB,show(a:Int)+(b:Int)=((a+b:Nat):Int)by omega,wrap_u64 (by omega) (by omega)];rfl
theorem AJ2 {B:Type} {a b:Nat} (h:b≤a) (ha:a<18446744073709551616) (K:V→Option B):(AL .sub (.int .u64 (a:Int)) (.int .u64 (b:Int))).bind K=K (.int .u64 ((a-b:Nat):Int)):=by
 rw[JX,show(a:Int)-(b:Int)=((a-b:Nat):Int)by omega,wrap_u64 (by omega) (by omega)];rfl
theorem VD {B:Type} {a b:Nat} (h:a*b<18446744073709551616) (K:V→Option B):(AL .mul (.int .u64 (a:Int)) (.int .u64 (b:Int))).bind K=K (.int .u64 ((a*b:Nat):Int)):=by
 rw[QO,←Int.natCast_mul,wrap_u64 (by omega) (by omega)];rfl
theorem LX {B:Type} {a b:Nat} (hb:0<b) (h:a<18446744073709551616) (K:V→Option B):(AL .quo (.int .u64 (a:Int)) (.int .u64 (b:Int))).bind K=K (.int .u64 ((a/b:Nat):Int)):=by
 have:a/b≤a:=Nat.div_le_self _ _
 rw[Uz _ _ _ (by omega),show(a:Int).tdiv b=((a/b:Nat):Int)by rfl]
 generalize a/b=c at*
 rw[wrap_u64 (by omega) (by omega)];rfl
theorem Oj {B:Type} {a b:Nat} (hb:0<b) (K:V→Option B):(AL .rem (.int .u64 (a:Int)) (.int .u64 (b:Int))).bind K=K (.int .u64 ((a%b:Nat):Int)):=by
 rw[LM _ _ _ (by omega),show(a:Int).tmod b=((a%b:Nat):Int)by rfl];rfl
theorem AMP {B:Type} {k:IntKind} {a b:Int} (h:a≠b) (K:V→Option B):(AL .neq (.int k a) (.int k b)).bind K=K (.bool true):=by
 rw[b_neq,Option.bind_some,decide_eq_true h]
theorem AMQ {B:Type} {k:IntKind} {a b:Int} (h:¬a≠b) (K:V→Option B):(AL .neq (.int k a) (.int k b)).bind K=K (.bool false):=by
 rw[b_neq,Option.bind_some,decide_eq_false h]
theorem AJ3 {B:Type} {k:IntKind} {a b:Int} (h:b≤a) (K:V→Option B):(AL .geq (.int k a) (.int k b)).bind K=K (.bool true):=by
 rw[b_geq,Option.bind_some,decide_eq_true h]
theorem AJ4 {B:Type} {k:IntKind} {a b:Int} (h:¬b≤a) (K:V→Option B):(AL .geq (.int k a) (.int k b)).bind K=K (.bool false):=by
 rw[b_geq,Option.bind_some,decide_eq_false h]
theorem SE {l:List Nat} {i:Nat} (hi:i<l.length):(Oi l)[i]?=some (uw (l.getD i 0)):=by
 simp[Oi,List.getElem?_map,List.getElem?_eq_getElem hi]
theorem Mc (l:List Nat):(Oi l).length=l.length:=by simp[Oi]
theorem AFD (a b:List Nat):Oi (a++b)=Oi a++Oi b:=by simp[Oi]
theorem Qa:∀l:List Nat,AQ (Oi l)=true
 |[]=>rfl
 |x::l=>by simp only[Oi,List.map_cons,AQ];rw[show List.map uw l=Oi l from rfl,Qa l];rfl
theorem Qb (l:List Nat):JM P 132 (Oi l)=true:=by
 simp[JM,Oi,Bd,ABa,BZ,ES,uw]
theorem AJ5 (x:Nat):Bd P 132 (uw x)=true:=by simp[Bd,ABa,BZ,ES,uw]
theorem Py {B:Type} {h:List V} {f:Fl} {l:List Nat} {i:Nat} (hi:i<l.length) (K:V→Option B):
 (AP P 231 (V.weak (uL f l)) (.int .i64 (i:Int))).bind (fun a=>(AZ h 132 a).bind K)=K (.int .u64 (l.getD i 0:Int)):=by
 refine(AE4 LJ (SE hi) _).trans ?_
 exact ldR _
theorem ABx (v:V) (f:Fl) (l:List Nat) (hv:v=uL f l):V.weak (V.weak v)=V.weak v:=by subst hv;cases f<;>rfl
theorem AGt {B:Type} {f:Fl} {h:List V} {l:List Nat} (hf:f= .own∨f= .nil) (hl:l.length+1≤2147483648) (x:Nat) (K':V→Option B):
 (Be P 231 1 [(0,.int .u64 (x:Int))]).bind (fun y=>(Dn P 231 h (uL f l) y).bind K')=K' (uL .own (l++[x])):=by
 refine(AB (AGq LJ (AJ5 x) rfl KE ⟨_,rfl⟩) _).trans ?_
 refine(AB (AIC LJ hf (y:=V.lst 132 .own [.int .u64 x]) rfl rfl (Qb [x]) (by rw[Mc];exact hl) KE) _).trans ?_
 rw[uL,AFD];rfl
theorem AIH (m:Nat) (hm:m≤63):∀(n i x:Nat),i+n=m→x=2^i→
 MI (.int .i64 (m:Int)) (.int .u64 (x:Int)) (.int .i64 (i:Int))=some (.int .u64 ((2^m:Nat):Int),[]):=by
 intro n
 induction n with
 |zero=>
  intro i x hi hx
  rw[N8,Rq,GR (by omega),BR,YV,Yw]
  subst hx;rw[show i=m by omega];rfl
 |succ n ih=>
  intro i x hi hx
  rw[N8,Rq,Fa (by omega),BQ,YT]
  have hp:2*x=2^(i+1):=by rw[hx,Nat.pow_succ,Nat.mul_comm]
  have:2^(i+1)≤2^63:=Nat.pow_le_pow_right (by decide) (by omega)
  refine(VD (a:=2) (by rw[hp];omega) _).trans ?_
  rw[YU]
  refine(FU (b:=1) (by omega) _).trans ?_
  exact ih (i+1) (2*x) (by omega) hp
theorem AII {m:Nat} (hm:m≤63):Cl 179 [.int .i64 (m:Int)] []=some (.int .u64 ((2^m:Nat):Int),[]):=by
 rw[AEX,YQ,YR,YS]
 exact AIH m hm m 0 1 (by omega) rfl
theorem Y0 {B:Type} {h:List V} {m:Nat} (hm:m≤63) (K:V×List V→Option B):(Cl 179 (AA h [.int .i64 (m:Int)]) []).bind K=K (.int .u64 ((2^m:Nat):Int),[]):=
 AB (AII hm) K
theorem AFE {B:Type} {h:List V} {m:Nat} (K:V×List V→Option B):(Cl 181 (AA h [.int .u64 (m:Int)]) []).bind K=K (.int .u64 ((m%4294967296:Nat):Int),[]):=by
 refine AB ?_ K
 show Cl 181 [.int .u64 (m:Int)] []=_
 rw[AEa,YX,YZ]
 exact Oj (b:=4294967296) (by decide) _
theorem ABy {x n:Nat} (hx:x<4294967296) (h1:1≤n) (h2:n≤31):Cl 182 [.int .u64 (x:Int),.int .i64 (n:Int)] []=some (.int .u64 (DX x n:Int),[]):=by
 rw[AEb,Ya,Yb]
 have p0:0<2^n:=Nat.pow_pos (by decide)
 have e:(4294967296:Nat)=2^n*2^(32-n):=by rw[←Nat.pow_add,show n+(32-n)=32 by omega]
 have hr:=Ae (n:=n) hx
 rw[AFB hx h1 h2]at hr⊢
 refine(Y0 (by omega) _).trans<|(LX p0 (by omega) _).trans<|(Y0 (by omega) _).trans<|(Oj p0 _).trans ?_
 have hr':x/2^n+x%2^n*2^(32-n)<18446744073709551616:=Nat.lt_trans hr (by decide)
 refine(Iw (a:=32) (by omega) (by omega) _).trans<|(Y0 (by omega) _).trans<|(VD (Nat.lt_of_le_of_lt (Nat.le_add_left _ _) hr') _).trans<|(ER hr' _).trans ?_
 rfl
theorem FV {B:Type} {h:List V} {x:Nat} (hx:x<4294967296) (n:Nat) (h1:1≤n) (h2:n≤31) (K:V×List V→Option B):
 (Cl 182 (AA h [.int .u64 (x:Int),.int .i64 (n:Int)]) []).bind K=K (.int .u64 (DX x n:Int),[]):=AB (ABy hx h1 h2) K
theorem Zu:Cl 180 [] []=some (uL .sh BD,[]):=by
 rw[AEZ,YW]
 kernel_rfl
end
section
open Go AM
theorem Wp {a:Nat} (h:a<4294967296):a<18446744073709551616:=Nat.lt_trans h (by decide)
theorem Gj {B:Type} {a b:Nat} (ha:a<4294967296) (hb:b<4294967296) (K:V→Option B):(AL .xor (.int .u64 (a:Int)) (.int .u64 (b:Int))).bind K=K (.int .u64 ((a ^^^ b:Nat):Int)):=
 AB (u64_xor (Wp ha) (Wp hb)) K
theorem VE {B:Type} {a b:Nat} (ha:a<4294967296) (hb:b<4294967296) (K:V→Option B):(AL .and (.int .u64 (a:Int)) (.int .u64 (b:Int))).bind K=K (.int .u64 ((a&&& b:Nat):Int)):=
 AB (u64_and (Wp ha) (Wp hb)) K
def box (st:List Nat):List V:=[.row 132 (Oi st)]
def FW:V:= .win 0 [] 0 8 132
theorem AGu {i:Nat} (hi:i<8):AP P 231 (V.weak FW) (.int .i64 (i:Int))=some (.ref 0 [i] 132):=by
 have:inside (i:Int) 8=true:=by simp[inside];omega
 simp[AP,FW,V.weak,LJ,this]
theorem VF {B:Type} {st:List Nat} (hs:st.length=8) {i:Nat} (hi:i<8) (K:V→Option B):
 (AP P 231 (V.weak FW) (.int .i64 (i:Int))).bind (fun a=>(AZ (box st) 132 a).bind K)=K (.int .u64 (st.getD i 0:Int)):=by
 refine(AB (AGu hi) _).trans ?_
 exact AB (CS (AH5 (u:=132) (fs:=Oi st) rfl (SE (by omega)))) _
theorem AJ6 {st:List Nat} (hs:st.length=8) {i x:Nat} (hi:i<8):FQ P (box st) 132 (.ref 0 [i] 132) (.int .u64 (x:Int))=some (box (st.set i x)):=by
 have:=AEp (P:=P) (h:=box st) (t:=132) (u:=132) (id:=0) (i:=i) (fs:=Oi st) (v:=uw x) (x:=uw (st.getD i 0)) rfl (SE (by omega)) (AJ5 x) rfl
 refine this.trans ?_
 simp[box,Oi,List.map_set]
theorem sl4 {p:List UInt8} {a j:Nat} (hp:a+4≤p.length) (hj:j<4):(bytesOf ((p.take (a+4)).drop a))[j]?=some (.int .u8 ((p.getD (a+j) 0).toNat:Int)):=by
 rw[←bytesOf_drop,←bytesOf_take,List.getElem?_drop,List.getElem?_take_of_lt (by omega),KG (by omega)]
theorem atB {B:Type} {h:List V} {f:Fl} {l:List UInt8} {i x:Nat} (hi:(bytesOf l)[i]?=some (.int .u8 (x:Int))) (K:V→Option B):
 (AP P 172 (V.weak (bL f l)) (.int .i64 (i:Int))).bind (fun a=>(AZ h 5 a).bind K)=K (.int .u8 (x:Int)):=by
 refine(AE4 Dc hi _).trans ?_
 exact ldR _
theorem cvU {B:Type} {h:List V} {x:Nat} (hx:x<256) (K:V→Option B):(conv P h 5 132 (.int .u8 (x:Int))).bind K=K (.int .u64 (x:Int)):=by
 refine(AB (CV ES ..) _).trans ?_
 rw[wrap_u64 (by omega) (by omega)]
theorem AFF {h:List V} {f g:Fl} {p:List UInt8} {w:List Nat} {a:Nat} (hp:a+4≤p.length) (hw:w.length<100) (hf:f= .own∨f= .nil) (K:V→Option (V×List V)):
 NR (uL f w) (bL g ((p.take (a+4)).drop a)) h K=
  K (uL .own (w++[(p.getD a 0).toNat*16777216+(p.getD (a+1) 0).toNat*65536+(p.getD (a+2) 0).toNat*256+(p.getD (a+3) 0).toNat])):=by
 have b:∀j,(p.getD j 0).toNat<256:=fun j=>UInt8.toNat_lt _
 have b0:=b (a+0);have b1:=b (a+1);have b2:=b (a+2);have b3:=b (a+3)
 unfold NR
 refine(atB (i:=0) (sl4 hp (by omega)) _).trans<|(cvU (b _) _).trans<|(VD (b:=16777216) (by omega) _).trans ?_
 refine(atB (i:=1) (sl4 hp (by omega)) _).trans<|(cvU (b _) _).trans<|(VD (b:=65536) (by omega) _).trans<|(ER (by omega) _).trans ?_
 refine(atB (i:=2) (sl4 hp (by omega)) _).trans<|(cvU (b _) _).trans<|(VD (b:=256) (by omega) _).trans<|(ER (by omega) _).trans ?_
 refine(atB (i:=3) (sl4 hp (by omega)) _).trans<|(cvU (b _) _).trans<|(ER (by omega) _).trans ?_
 exact AGt hf (by omega) _ _
theorem AFG {h:List V} {f:Fl} {w:List Nat} {t:Nat} (h16:16≤t) (ht:t<64) (hw:w.length=t) (K:V→V→Option (V×List V)):
 NS (uL f w) (.int .i64 (t:Int)) h K=K (uw (w.getD (t-15) 0)) (uw (w.getD (t-2) 0)):=by
 unfold NS
 refine(Iw (b:=15) (by omega) (by omega) _).trans<|(Py (by omega) _).trans ?_
 exact(Iw (b:=2) (by omega) (by omega) _).trans<|(Py (by omega) _)
theorem AIJ {x:Nat} (hx:x<4294967296):sg0 x<4294967296:=Cc (Cc (Ae hx) (Ae hx)) (Hu _ hx)
theorem AIK {x:Nat} (hx:x<4294967296):sg1 x<4294967296:=Cc (Cc (Ae hx) (Ae hx)) (Hu _ hx)
theorem AFH {h:List V} {f:Fl} {w:List Nat} {t:Nat} (h16:16≤t) (ht:t<64) (hw:w.length=t) (bw:B32 w) (hf:f= .own∨f= .nil) (K:V→Option (V×List V)):
 NT (uL f w) (.int .i64 (t:Int)) (uw (w.getD (t-15) 0)) (uw (w.getD (t-2) 0)) h K=K (uL .own (w++[fv w t])):=by
 have a1:=bw.get (t-16);have a2:=bw.get (t-7);have a3:=bw.get (t-15);have a4:=bw.get (t-2)
 have s0:=AIJ a3;have s1:=AIK a4
 unfold NT
 rw[ABx _ f w rfl]
 refine(Iw (b:=16) (by omega) (by omega) _).trans<|(Py (by omega) _).trans ?_
 refine(Iw (b:=7) (by omega) (by omega) _).trans<|(Py (by omega) _).trans ?_
 refine(ER (by omega) _).trans ?_
 refine(FV a3 7 (by omega) (by omega) _).trans<|(FV a3 18 (by omega) (by omega) _).trans<|(Gj (Ae a3) (Ae a3) _).trans ?_
 refine(LX (b:=8) (by omega) (Wp a3) _).trans ?_
 refine(Gj (Cc (Ae a3) (Ae a3)) (Hu 8 a3) _).trans ?_
 refine(ER (show _+sg0 (w.getD (t-15) 0)<_ by omega) _).trans ?_
 refine(FV a4 17 (by omega) (by omega) _).trans<|(FV a4 19 (by omega) (by omega) _).trans<|(Gj (Ae a4) (Ae a4) _).trans ?_
 refine(LX (b:=1024) (by omega) (Wp a4) _).trans ?_
 refine(Gj (Cc (Ae a4) (Ae a4)) (Hu 1024 a4) _).trans ?_
 refine(ER (show _+sg0 (w.getD (t-15) 0)+sg1 (w.getD (t-2) 0)<_ by omega) _).trans ?_
 refine(AFE _).trans ?_
 rw[fv,ad4]
 exact AGt hf (by omega) _ _
theorem AFI {h:List V} {f:Fl} {v:List Nat} (hv:v.length=8) (K:V→V→Option (V×List V)):
 NW (uL f v) h K=K (uw (v.getD 0 0)) (uw (v.getD 4 0)):=by
 unfold NW
 exact(Py (i:=0) (by omega) _).trans<|(Py (i:=4) (by omega) _)
theorem AFJ {h:List V} {f:Fl} {v:List Nat} (hv:v.length=8) (bv:B32 v) (K:V→Option (V×List V)):
 NY (uL f v) (uw (v.getD 4 0)) h K=K (uw (v.getD 6 0 ^^^ (v.getD 4 0&&& (v.getD 5 0 ^^^ v.getD 6 0)))):=by
 have be:=bv.get 4;have bf:=bv.get 5;have bg:=bv.get 6
 unfold NY
 refine(Py (i:=5) (by omega) _).trans<|(VE be bf _).trans<|(AJ2 (a:=4294967295) (by omega) (by omega) _).trans ?_
 refine(Py (i:=6) (by omega) _).trans<|(VE (by omega) bg _).trans<|(Gj (DL be) (DL (by omega)) _).trans ?_
 rw[AJ0 be bf bg];rfl
theorem AFK {h:List V} {f:Fl} {v:List Nat} (hv:v.length=8) (bv:B32 v) (K:V→Option (V×List V)):
 NZ (uL f v) (uw (v.getD 0 0)) h K=K (uw ((v.getD 0 0&&& v.getD 1 0)|||(v.getD 2 0&&& (v.getD 0 0|||v.getD 1 0)))):=by
 have ba:=bv.get 0;have bb:=bv.get 1;have bc:=bv.get 2
 unfold NZ
 refine(Py (i:=1) (by omega) _).trans<|(VE ba bb _).trans ?_
 refine(Py (i:=2) (by omega) _).trans<|(VE ba bc _).trans<|(Gj (DL ba) (DL ba) _).trans ?_
 refine(Py (i:=1) (by omega) _).trans<|(Py (i:=2) (by omega) _).trans<|(VE bb bc _).trans<|(Gj (Cc (DL ba) (DL ba)) (DL bb) _).trans ?_
 rw[AJ1];rfl
def s1E (e:Nat):Nat:=(DX e 6 ^^^ DX e 11) ^^^ DX e 25
def s0A (a:Nat):Nat:=(DX a 2 ^^^ DX a 13) ^^^ DX a 22
theorem ABz {e:Nat} (h:e<4294967296):s1E e<4294967296:=Cc (Cc (Ae h) (Ae h)) (Ae h)
theorem AB0 {e:Nat} (h:e<4294967296):s0A e<4294967296:=Cc (Cc (Ae h) (Ae h)) (Ae h)
theorem AFM {h:List V} {f g k:Fl} {v w:List Nat} {c t:Nat} (hv:v.length=8) (bv:B32 v) (hw:w.length=64) (bw:B32 w) (ht:t<64) (hc:c<4294967296) (K:V→Option (V×List V)):
 Na (uL k BD) (uL g w) (uL f v) (.int .i64 (t:Int)) (uw (v.getD 4 0)) (uw c) h K=K (uw (v.getD 7 0+s1E (v.getD 4 0)+c+BD.getD t 0+w.getD t 0)):=by
 have be:=bv.get 4;have b7:=bv.get 7;have bk:=AGp.get t;have bt:=bw.get t
 have s:=ABz be
 unfold Na
 refine(Py (i:=7) (by omega) _).trans<|(FV be 6 (by omega) (by omega) _).trans<|(FV be 11 (by omega) (by omega) _).trans<|(Gj (Ae be) (Ae be) _).trans ?_
 refine(FV be 25 (by omega) (by omega) _).trans<|(Gj (Cc (Ae be) (Ae be)) (Ae be) _).trans ?_
 refine(ER (show _+s1E (v.getD 4 0)<_ by omega) _).trans<|(ER (show _+s1E (v.getD 4 0)+c<_ by omega) _).trans ?_
 refine(Py (by rw[AGo];exact ht) _).trans<|(ER (show _+s1E (v.getD 4 0)+c+_<_ by omega) _).trans ?_
 exact(Py (by omega) _).trans<|(ER (show _+s1E (v.getD 4 0)+c+_+_<_ by omega) _)
theorem AFN {h:List V} {a c:Nat} (ba:a<4294967296) (hc:c<4294967296) (K:V→Option (V×List V)):
 Nb (uw a) (uw c) h K=K (uw (s0A a+c)):=by
 have s:=AB0 ba
 unfold Nb
 refine(FV ba 2 (by omega) (by omega) _).trans<|(FV ba 13 (by omega) (by omega) _).trans<|(Gj (Ae ba) (Ae ba) _).trans ?_
 refine(FV ba 22 (by omega) (by omega) _).trans<|(Gj (Cc (Ae ba) (Ae ba)) (Ae ba) _).trans ?_
 exact(ER (show s0A a+c<_ by omega) _)
theorem AGv (z0 z1 z2 z3 z4 z5 z6 z7:Nat):Be P 231 8 [(0,.int .u64 (z0:Int)),(1,.int .u64 (z1:Int)),(2,.int .u64 (z2:Int)),(3,.int .u64 (z3:Int)),(4,.int .u64 (z4:Int)),(5,.int .u64 (z5:Int)),(6,.int .u64 (z6:Int)),(7,.int .u64 (z7:Int))]=some (uL .own [z0,z1,z2,z3,z4,z5,z6,z7]):=by
 simp[Be,LJ,BL,Bd,ABa,BZ,ES,cp,KE,uL,Oi,uw,List.replicate,AQ,V.clean,Ci]
theorem AFO {h:List V} {f:Fl} {v:List Nat} {a e x y:Nat} (hv:v.length=8) (bv:B32 v) (hx:x<4294967296*8) (hy:y<4294967296*8) (K:V→Option (V×List V)):
 Nc (uL f v) (uw a) (uw e) (uw x) (uw y) h K=
  K (uL .own [(x+y)%4294967296,a,v.getD 1 0,v.getD 2 0,(v.getD 3 0+x)%4294967296,e,v.getD 5 0,v.getD 6 0]):=by
 have b3:=bv.get 3
 unfold Nc
 refine(ER (by omega) _).trans<|(AFE _).trans<|(Py (i:=1) (by omega) _).trans<|(Py (i:=2) (by omega) _).trans<|(Py (i:=3) (by omega) _).trans ?_
 refine(ER (by omega) _).trans<|(AFE _).trans<|(Py (i:=5) (by omega) _).trans<|(Py (i:=6) (by omega) _).trans ?_
 exact AB (AGv _ _ _ _ _ _ _ _) _
theorem AIL (e f g h k w:Nat):chE e f g h k w=(h+s1E e+(g ^^^ (e&&& (f ^^^ g)))+k+w)%4294967296:=ad5 ..
theorem AIM (a b c:Nat):mjA a b c=(s0A a+((a&&& b)|||(c&&& (a|||b))))%4294967296:=rfl
theorem AFP {k w v:List Nat} {t:Nat}:
 [(v.getD 7 0+s1E (v.getD 4 0)+(v.getD 6 0 ^^^ (v.getD 4 0&&& (v.getD 5 0 ^^^ v.getD 6 0)))+k.getD t 0+w.getD t 0+(s0A (v.getD 0 0)+((v.getD 0 0&&& v.getD 1 0)|||(v.getD 2 0&&& (v.getD 0 0|||v.getD 1 0)))))%4294967296,
   v.getD 0 0,v.getD 1 0,v.getD 2 0,
   (v.getD 3 0+(v.getD 7 0+s1E (v.getD 4 0)+(v.getD 6 0 ^^^ (v.getD 4 0&&& (v.getD 5 0 ^^^ v.getD 6 0)))+k.getD t 0+w.getD t 0))%4294967296,
   v.getD 4 0,v.getD 5 0,v.getD 6 0]=rnd k w t v:=by
 rw[ABn,AIL,AIM,AMN,AMO,Nat.add_mod_mod]
end
section
open Go AM
theorem Zv (p:List UInt8) (o t:Nat) (ho:o+4*t+4≤p.length) (ht:t<16):
 (p.getD (o+4*t) 0).toNat*16777216+(p.getD (o+4*t+1) 0).toNat*65536+(p.getD (o+4*t+2) 0).toNat*256+(p.getD (o+4*t+3) 0).toNat=wordAt ((p.drop o).take 64) t:=by
 have e:∀j,j<64→((p.drop o).take 64).getD j 0=p.getD (o+j) 0:=by
  intro j hj
  simp[List.getD_eq_getElem?_getD,List.getElem?_take,List.getElem?_drop,hj]
 have b:∀j,(p.getD j 0).toNat<256:=fun j=>UInt8.toNat_lt _
 rw[wordAt,e _ (by omega),e _ (by omega),e _ (by omega),e _ (by omega),AFC (b _) (b _) (b _) (b _)]
 simp only[Nat.add_assoc]
theorem AFQ (p:List UInt8) (t6:V) (o:Nat) (m4:Nat) (v:List Nat) (f:Fl) (hv:v.length=8) (bv:B32 v) (N:V×List V→Prop) (R:Option (V×List V))
 (k:∀st:List Nat,st.length=8→B32 st→D6 (bL .own p) t6 FW (.int .i64 ((o+64:Nat):Int)) (box st)=D6 (bL .own p) t6 FW (.int .i64 ((o+64:Nat):Int)) (box st)) (ho:o<2^40):
 ∀(n i:Nat) (st:List Nat),i+n=8→st.length=8→B32 st→
 JV (bL .own p) t6 FW (.int .i64 (o:Int)) (uL f v) (.int .i64 (i:Int)) m4 (box st)=
  D6 (bL .own p) t6 FW (.int .i64 ((o+64:Nat):Int)) (box (KH v n i st)):=by
 intro n
 induction n with
 |zero=>
  intro i st hi hs bs
  rw[LD,Nh,GR (by omega),BR,UI]
  refine(FU (b:=64) (by omega) _).trans ?_
  rfl
 |succ n ih=>
  intro i st hi hs bs
  rw[LD,Nh,Fa (by omega),BQ,UG]
  have b1:=bs.get i;have b2:=bv.get i
  refine(VF hs (by omega) _).trans<|(Py (by omega) _).trans<|(ER (by omega) _).trans<|(AFE _).trans ?_
  refine(AB (AGu (by omega)) _).trans<|(AB (AJ6 hs (by omega)) _).trans ?_
  rw[UH]
  refine(FU (b:=1) (by omega) _).trans ?_
  exact ih (i+1) _ (by omega) (by simp[hs]) (bs.set i (QS _ _))
theorem AIN (p:List UInt8) (o m4:Nat) (ho:o<2^40) (w st:List Nat) (g kf:Fl) (hw:w.length=64) (bw:B32 w) (hs:st.length=8) (bs:B32 st):
 ∀(n t:Nat) (v:List Nat) (f:Fl),t+n=64→v.length=8→B32 v→
 MB (bL .own p) (uL kf BD) FW (.int .i64 (o:Int)) (uL g w) (uL f v) (.int .i64 (t:Int)) m4 (box st)=
  D6 (bL .own p) (uL kf BD) FW (.int .i64 ((o+64:Nat):Int)) (box (KH (Oc BD w n t v) 8 0 st)):=by
 intro n
 induction n with
 |zero=>
  intro t v f ht hv bv
  rw[Nj,NV,GR (by omega),BR,UF]
  exact AFQ p _ o m4 v f hv bv (fun _=>True) none (fun _ _ _=>rfl) ho 8 0 st rfl hs bs
 |succ n ih=>
  intro t v f ht hv bv
  have c1:(v.getD 6 0 ^^^ (v.getD 4 0&&& (v.getD 5 0 ^^^ v.getD 6 0)))<4294967296:=Cc (bv.get 6) (DL (bv.get 4))
  have c2:((v.getD 0 0&&& v.getD 1 0)|||(v.getD 2 0&&& (v.getD 0 0|||v.getD 1 0)))<4294967296:=ABi (DL (bv.get 0)) (DL (bv.get 2))
  have s1:=ABz (bv.get 4);have s0:=AB0 (bv.get 0);have b7:=bv.get 7;have bk:=AGp.get t;have bt:=bw.get t
  rw[Nj,NV,Fa (by omega),BQ,AFI hv,AFJ hv bv,AFK hv bv,AFM hv bv hw bw (by omega) c1,AFN (bv.get 0) c2,
   AFO hv bv (by omega) (by omega),AFP,UE,ABo]
  refine(FU (b:=1) (by omega) _).trans ?_
  exact ih (t+1) _ .own (by omega) rfl (Wi bv t).1
theorem AJ8 (w:List Nat) (t:Nat):fv w t<4294967296:=QS _ _
theorem AFR (f:Fl) {st:List Nat} (hs:st.length=8) (K:V→Option (V×List V)):NU FW (box st) K=K (uL .own st):=by
 unfold NU
 refine(AB (show Be P 231 0 []=some (uL .own [])by simp[Be,LJ,BL,uL,Oi,AQ,Ci,KE]) _).trans ?_
 have c:Ad (box st) (V.weak FW)=some (Oi st):=by
  simp[Ad,FW,V.weak,box,rd,V.at,V.items]
  rw[List.take_of_length_le (by rw[Mc];omega)]
 exact AB (AIC LJ (Or.inl rfl) c (Qa _) (Qb _) (by rw[Mc];simp[Oi];omega) KE) _
theorem AFS (p:List UInt8) (o m4:Nat) (ho:o<2^40) (st:List Nat) (kf:Fl) (hs:st.length=8) (bs:B32 st):
 ∀(n t:Nat) (w:List Nat),t+n=64→16≤t→w.length=t→B32 w→
 Hr (bL .own p) (uL kf BD) FW (.int .i64 (o:Int)) (uL .own w) (.int .i64 (t:Int)) m4 (box st)=
  D6 (bL .own p) (uL kf BD) FW (.int .i64 ((o+64:Nat):Int)) (box (KH (Oc BD (QZ n t w) 64 0 st) 8 0 st)):=by
 intro n
 induction n with
 |zero=>
  intro t w ht h16 hw bw
  rw[Iu,JS,GR (by omega),BR,AFR .own hs,UD]
  exact AIN p o m4 ho w st .own kf (by omega) bw hs bs 64 0 st .own rfl hs bs
 |succ n ih=>
  intro t w ht h16 hw bw
  rw[Iu,JS,Fa (by omega),BQ,NQ,GR (by omega),BR,
   AFG h16 (by omega) hw,AFH h16 (by omega) hw bw (Or.inl rfl),JU]
  refine(FU (b:=1) (by omega) _).trans ?_
  refine ih (t+1) (w++[fv w t]) (by omega) (by omega) (by simp[hw]) ?_
  intro x hx;rcases List.mem_append.1 hx with hx|hx
  ·exact bw x hx
  ·rw[List.mem_singleton.1 hx];exact AJ8 _ _
theorem AIO (p:List UInt8) (o m4:Nat) (ho:o<2^40) (hp:o+64≤p.length) (st:List Nat) (kf:Fl) (hs:st.length=8) (bs:B32 st):
 ∀(n t:Nat) (w:List Nat),t+n=16→w.length=t→B32 w→
 Hr (bL .own p) (uL kf BD) FW (.int .i64 (o:Int)) (uL .own w) (.int .i64 (t:Int)) m4 (box st)=
  D6 (bL .own p) (uL kf BD) FW (.int .i64 ((o+64:Nat):Int)) (box (KH (Oc BD (QZ 48 16 (U9 ((p.drop o).take 64) n t w)) 64 0 st) 8 0 st)):=by
 intro n
 induction n with
 |zero=>
  intro t w ht hw bw
  rw[show t=16 by omega]at*
  exact AFS p o m4 ho st kf hs bs 48 16 w rfl (by omega) hw bw
 |succ n ih=>
  intro t w ht hw bw
  rw[Iu,JS,Fa (by omega),BQ,NQ,Fa (by omega),BQ,UC]
  refine(U5 (a:=4) (by omega) _).trans<|(FU (by omega) _).trans<|(U5 (a:=4) (by omega) _).trans<|(FU (by omega) _).trans<|(FU (b:=4) (by omega) _).trans ?_
  refine(AB (AH9 (f:= .own) (t:=5) (xs:=bytesOf p) Dc (a:=o+4*t) (b:=o+4*t+4) (by omega) (by rw[Aj];omega)) _).trans ?_
  rw[bytesOf_take,bytesOf_drop]
  refine(AFF (g:=Fl.cut .own) (by omega) (by omega) (Or.inl rfl) _).trans ?_
  rw[JU]
  refine(FU (b:=1) (by omega) _).trans ?_
  rw[Zv p o t (by omega) (by omega)]
  refine ih (t+1) _ (by omega) (by simp[hw]) ?_
  intro x hx;rcases List.mem_append.1 hx with hx|hx
  ·exact bw x hx
  ·rw[List.mem_singleton.1 hx];exact KF _ _
end
section
open Go AM
def Iz (st:List Nat):Nat→Nat→List UInt8
 |0,_=>[]
 |n+1,i=>[dg st (4*i),dg st (4*i+1),dg st (4*i+2),dg st (4*i+3)]++Iz st n (i+1)
def AB1 (st:List Nat):Nat→Nat→List UInt8
 |0,_=>[]
 |n+1,i=>dg st i::AB1 st n (i+1)
theorem VG {l:List UInt8} {t:Nat} {x:UInt8} (ht:t<l.length):(l.set t x).take (t+1)=l.take t++[x]:=by
 rw[List.take_add_one]
 simp[ht,List.take_set_of_le]
theorem Ol (st:List Nat):∀(n i:Nat) (w:List UInt8),i+n=w.length→Ec st n i w=w.take i++AB1 st n i
 |0,i,w,h=>by rw[Ec,AB1,List.append_nil,List.take_of_length_le (by omega)]
 |n+1,i,w,h=>by
  rw[Ec,Ol st n (i+1) (w.set i (dg st i)) (by simp;omega),VG (by omega),AB1,List.append_assoc,List.singleton_append]
theorem Om (st:List Nat):∀n i,AB1 st (4*n) (4*i)=Iz st n i
 |0,_=>rfl
 |n+1,i=>by
  have:=Om st n (i+1)
  rw[Iz,←this];rfl
theorem VH (st:List Nat):Ec st 32 0 (List.replicate 32 0)=Iz st 8 0:=by
 rw[Ol st 32 0 _ (by simp),List.take_zero,List.nil_append];exact Om st 8 0
theorem Y1 (st:List Nat) (i j:Nat) (hj:j<4):dg st (4*i+j)=UInt8.ofNat (st.getD i 0/2^(24-8*j)%256):=by
 rw[dg,show(4*i+j)/4=i by omega,show(4*i+j)%4=j by omega]
theorem I4 (l:List UInt8):D5 (bytesOf l)=some l:=by
 induction l with
 |nil=>rfl
 |cons x l ih=>
  have:bytesOf (x::l)= .int .u8 (x.toNat:Int)::bytesOf l:=rfl
  rw[this]
  simp only[D5,AM.byteOf,ih]
  simp
theorem AJ9 (a b c d:Nat) (ha:a<256) (hb:b<256) (hc:c<256) (hd:d<256):Be P 172 4 [(0,.int .u8 (a:Int)),(1,.int .u8 (b:Int)),(2,.int .u8 (c:Int)),(3,.int .u8 (d:Int))]=some (bL .own [UInt8.ofNat a,UInt8.ofNat b,UInt8.ofNat c,UInt8.ofNat d]):=by
 simp[Be,Dc,BL,MZ,cp,WX,List.replicate,AQ,V.clean,Ci,bL,bytesOf,Nat.mod_eq_of_lt ha,Nat.mod_eq_of_lt hb,Nat.mod_eq_of_lt hc,Nat.mod_eq_of_lt hd]
theorem cv8 {B:Type} {h:List V} {x:Nat} (K:V→Option B):(conv P h 132 5 (.int .u64 (x:Int))).bind K=K (.int .u8 ((x%256:Nat):Int)):=by
 refine(AB (CV LH ..) _).trans ?_
 rw[Gh]
theorem AFU {st:List Nat} (hs:st.length=8) (bs:B32 st) {l:List UInt8} {f:Fl} {i:Nat} (hi:i<8) (hl:l.length<1000) (K:V→Option (V×List V)):
 Nl FW (bL .own l) (.int .i64 (i:Int)) (box st) K=K (bL .own (l++[dg st (4*i),dg st (4*i+1),dg st (4*i+2),dg st (4*i+3)])):=by
 have b:=Wp (bs.get i)
 have m:∀x,x%256<256:=fun x=>Nat.mod_lt _ (by decide)
 unfold Nl
 refine(VF hs hi _).trans<|(LX (b:=16777216) (by decide) b _).trans<|(cv8 _).trans ?_
 refine(VF hs hi _).trans<|(LX (b:=65536) (by decide) b _).trans<|(Oj (b:=256) (by decide) _).trans<|(cv8 _).trans ?_
 refine(VF hs hi _).trans<|(LX (b:=256) (by decide) b _).trans<|(Oj (b:=256) (by decide) _).trans<|(cv8 _).trans ?_
 refine(VF hs hi _).trans<|(Oj (b:=256) (by decide) _).trans<|(cv8 _).trans ?_
 refine(AB (AJ9 _ _ _ _ (m _) (m _) (m _) (m _)) _).trans ?_
 refine(AB (AID (Or.inl rfl) (by simp;omega)) _).trans ?_
 rw[show dg st (4*i)=dg st (4*i+0)from rfl,Y1 _ _ 0 (by omega),Y1 _ _ 1 (by omega),Y1 _ _ 2 (by omega),Y1 _ _ 3 (by omega)]
 simp only[Nat.mod_mod]
 rw[show(2^(24-8*3):Nat)=1 from rfl,Nat.div_one]
theorem AFV {st:List Nat} (hs:st.length=8) (bs:B32 st):∀(n i:Nat) (l:List UInt8),i+n=8→l.length=4*i→
 JW FW (bL .own l) (.int .i64 (i:Int)) (box st)=some (.str (l++Iz st n i),[]):=by
 intro n
 induction n with
 |zero=>
  intro i l hi hl
  rw[LG,Nk,GR (by omega),BR,UM]
  refine(AB (show conv P (box st) 172 9 (bL .own l)=some (.str l)by simp[conv,OZ,F6,LH,bL,Ad,I4]) _).trans ?_
  rw[JZ,Iz,List.append_nil];rfl
 |succ n ih=>
  intro i l hi hl
  rw[LG,Nk,Fa (by omega),BQ,AFU (f:= .own) hs bs (by omega) (by omega),UL,Iz,←List.append_assoc]
  refine(FU (b:=1) (by omega) _).trans ?_
  exact ih (i+1) _ (by omega) (by simp;omega)
theorem AIP (p:List UInt8) (kf:Fl) (hp:p.length<2^32):∀(n o:Nat) (st:List Nat),o+64*n=p.length→st.length=8→B32 st→
 D6 (bL .own p) (uL kf BD) FW (.int .i64 (o:Int)) (box st)=some (.str (Ec (blocks n st (p.drop o)) 32 0 (List.replicate 32 0)),[]):=by
 intro n
 induction n with
 |zero=>
  intro o st ho hs bs
  rw[Np,NP]
  refine IY _ |>.trans ?_
  refine(GR (by omega) _).trans ?_
  rw[BR,UJ]
  refine(AB (show Be P 172 0 []=some (bL .own [])by simp[Be,Dc,BL,bL,bytesOf,AQ,Ci,WX]) _).trans ?_
  rw[UK,VH]
  exact AFV hs bs 8 0 [] rfl rfl
 |succ n ih=>
  intro o st ho hs bs
  rw[Np,NP]
  refine IY _ |>.trans ?_
  refine(Fa (by omega) _).trans ?_
  rw[BQ,UA]
  refine(AB (show Be P 231 0 []=some (uL .own [])by simp[Be,LJ,BL,uL,Oi,AQ,Ci,KE]) _).trans ?_
  rw[UB]
  refine(AIO p o _ (by omega) (by omega) st kf hs bs 16 0 [] rfl rfl (by intro x hx;cases hx)).trans ?_
  rw[AIF]
  have:=ih (o+64) (QT st ((p.drop o).take 64)) (by omega) (Jc _ bs hs).2 (Jc _ bs hs).1
  refine this.trans ?_
  rw[blocks,List.drop_drop]
theorem Zw:Be P 231 8 [(0,.int .u64 1779033703),(1,.int .u64 3144134277),(2,.int .u64 1013904242),(3,.int .u64 2773480762),(4,.int .u64 1359893119),(5,.int .u64 2600822924),(6,.int .u64 528734635),(7,.int .u64 1541459225)]=some (uL .own Dq):=by
 refine(AGv 1779033703 3144134277 1013904242 2773480762 1359893119 2600822924 528734635 1541459225).trans ?_
 kernel_rfl
theorem AIQ (N:Nat) (hN:N<2147483648):∀(n i:Nat) (p:List UInt8),i+n=8→(p.length+n)%64=0→p.length<2147483000→
 L9 (bL .own p) (.int .u64 ((8*N:Nat):Int)) (.int .i64 ((n:Int)-1)) []=
  some (.str (Ec (blocks ((p++Fb (8*N) n i).length/64) Dq (p++Fb (8*N) n i)) 32 0 (List.replicate 32 0)),[]):=by
 intro n
 induction n with
 |zero=>
  intro i p hi hp hl
  rw[Nq,Rl]
  refine(AJ4 (by omega) _).trans ?_
  rw[BR,YF]
  refine(AB Zu _).trans ?_
  rw[Tv]
  refine(AB Zw _).trans<|(AB (show C9 [] (uL .own Dq)=some (FW,box Dq)by simp[C9,uL,Mc,ABv,FW,box]) _).trans ?_
  rw[Tz]
  simp only[Fb,List.append_nil]
  have:=AIP p .sh (by omega) (p.length/64) 0 Dq (by omega) ABv AGr
  rw[List.drop_zero]at this
  exact this
 |succ n ih=>
  intro i p hi hp hl
  rw[Nq,Rl]
  refine(AJ3 (by omega) _).trans ?_
  rw[BQ,YD,show((n+1:Nat):Int)-1=(n:Int)by omega]
  refine(U5 (a:=8) (by omega) _).trans<|(Y0 (by omega) _).trans ?_
  refine(LX (Nat.pow_pos (by decide)) (by omega) _).trans<|(Oj (b:=256) (by decide) _).trans<|(cv8 _).trans ?_
  refine(app1 (Or.inl rfl) (by omega) _ (Nat.mod_lt _ (by decide)) _).trans ?_
  rw[YE]
  refine(AB (JX _ _ _) _).trans ?_
  rw[wrap_i64 (by omega) (by omega),Nat.mod_mod]
  have:=ih (i+1) (p++[lb (8*N) i]) (by omega) (by simp;omega) (by simp;omega)
  rw[List.append_assoc,List.singleton_append,lb,show 56-8*i=8*n by omega]at this
  rw[Fb,lb,show 56-8*i=8*n by omega]
  exact this
theorem AIR (s:List UInt8) (hs:s.length<2147483648):∀(n:Nat) (p:List UInt8),KI p.length=n→p.length+n<2147482000→
 L8 (.str s) (bL .own p) []=
  some (.str (Ec (blocks ((p++List.replicate n 0++Fb (8*s.length) 8 0).length/64) Dq (p++List.replicate n 0++Fb (8*s.length) 8 0)) 32 0 (List.replicate 32 0)),[]):=by
 intro n
 induction n with
 |zero=>
  intro p hp hl
  rw[Nr,Rk]
  refine IY _ |>.trans ?_
  refine(AB (LM _ _ _ (by omega)) _).trans ?_
  rw[show(p.length:Int).tmod 64=((p.length%64:Nat):Int)by rfl]
  simp only[KI]at hp
  refine(AMQ (by omega) _).trans ?_
  rw[BR,YB,List.replicate_zero,List.append_nil]
  refine(AB (show lenV P 9 (.str s)=some (.int .i64 (s.length:Int))by simp[lenV,OZ]) _).trans ?_
  refine(U5 (a:=8) (by omega) _).trans ?_
  refine(AB (CV ES ..) _).trans ?_
  rw[wrap_u64 (by omega) (by omega),YC]
  exact AIQ s.length hs 8 0 p rfl (by omega) (by omega)
 |succ n ih=>
  intro p hp hl
  rw[Nr,Rk]
  refine IY _ |>.trans ?_
  refine(AB (LM _ _ _ (by omega)) _).trans ?_
  rw[show(p.length:Int).tmod 64=((p.length%64:Nat):Int)by rfl]
  simp only[KI]at hp
  refine(AMP (by omega) _).trans ?_
  rw[BQ,YA]
  refine(app1 (Or.inl rfl) (by omega) 0 (by omega) _).trans ?_
  have:=ih (p++[0]) (by simp only[KI,List.length_append,List.length_cons,List.length_nil];omega) (by simp;omega)
  rw[List.append_assoc p [0],List.singleton_append]at this
  exact this
theorem AB2 {B:Type} {h:List V} {s:List UInt8} (hs:s.length≤2147483648) (K:V→Option B):(conv P h 9 172 (.str s)).bind K=K (bL .own s):=
 AB (by simp[conv,F6,LH,DV,hs,bL]) K
theorem Fe {s:List UInt8} (hs:s.length<2147480000):Cl 151 [.str s] []=some (.str (TV s),[]):=by
 rw[AEL,X8,X9]
 refine(AB2 (by omega) _).trans ?_
 refine(app1 (Or.inl rfl) (by omega) 128 (by omega) _).trans ?_
 have z:KI (s.length+1)<64:=Nat.mod_lt _ (by decide)
 exact AIR s (by omega) (KI (s.length+1)) (s++[128]) (by simp) (by simp;omega)
end
section
open Go AM
end
section
open Go AM
def Ia:Nat→Nat→List UInt8
 |0,_=>[]
 |f+1,n=>if n<128 then[UInt8.ofNat n]else UInt8.ofNat (n%128+128)::Ia f (n/128)
def BV (n:Nat):List UInt8:=Ia 10 n
theorem A7:∀f n,(Ia f n).length≤f
 |0,_=>by simp[Ia]
 |f+1,n=>by
  rw[Ia];split
  ·simp
  ·have:=A7 f (n/128);simp;omega
def Ba (f:Fl) (l:List UInt8):V:= .agg 190 [bL f l]
def ET (id:Nat):V:= .ref id [] 191
abbrev OK (f:Fl):Prop:=f= .own∨f= .nil
theorem AMR (a:Nat) (ha:a<256):AL .or (.int .u8 (a:Int)) (.int .u8 128)=some (.int .u8 ((a%128+128:Nat):Int)):=by
 have h:∀x:Fin 256,x.val|||128=x.val%128+128:=by decide
 have e:=h ⟨a,ha⟩
 rw[show(128:Int)=((128:Nat):Int)from rfl,AJl,Bl,Bl,show(BitVec.ofNat (IntKind.u8).bits a|||BitVec.ofNat (IntKind.u8).bits 128).toNat=a|||128 from AGn (w:=8) (by omega) (by omega),e,wrap_u8 (by omega) (by omega)]
theorem VI {B:Type} {id:Nat} (K:V→Option B):(BJ (ET id)).bind K=K (ET id):=rfl
theorem AB3 {B:Type} {id:Nat} (K:V→Option B):(EL P 191 0 (ET id)).bind K=K (.ref id [0] 172):=
 AB (WZ (P:=P) (t:=191) (f:=0) ABc rfl (by rw[AEn];decide) id []) K
def wk:Fl→Fl
 | .own=> .sh
 |f=>f
theorem Y2 (f:Fl) (l:List UInt8):(bL f l).weak=bL (wk f) l:=by cases f<;>rfl
theorem Y3 {B:Type} {h:List V} {id:Nat} {f:Fl} {l:List UInt8} (hh:h[id]?=some (Ba f l)) (K:V×List V→Option B):
 (CU h 172 (.ref id [0] 172)).bind K=K (bL f l,h.set id (Ba (wk f) l)):=by
 refine AB ?_ K
 have r:rd h id [0]=some (bL f l):=Rz hh rfl
 simp[CU,r,wr,hh,Ba,V.upd,Y2]
theorem tyB (f:Fl) (l:List UInt8):Bd P 172 (bL f l)=true:=by simp[Bd,Dc,bL]
theorem unB (n:Nat) {f:Fl} (hf:f≠ .lent) (l:List UInt8):(bL f l).under n=true:=by cases f<;>first|rfl|exact absurd rfl hf
theorem AB4 {B:Type} {h:List V} {id:Nat} {f:Fl} {l m:List UInt8} (hh:h[id]?=some (Ba f l)) (K:List V→Option B):
 (FQ P h 172 (.ref id [0] 172) (bL .own m)).bind K=K (h.set id (Ba .own m)):=by
 refine AB ?_ K
 exact MV hh rfl (tyB _ _) (unB _ (by intro h;cases h) _)
theorem Qc (h:List V):Cl 68 [] h=some (ET h.length,h++[Ba .nil []]):=by
 rw[AHq,ABK,ABL]
 have b:bld P 191 []=some (Ba .nil []):=by simp[bld,ABc,AH3,BL,Ba,bL,bytesOf]
 refine(AB b _).trans ?_
 have w:(Ba .nil []).weak=Ba .nil []:=rfl
 have c:(Bd P 191 (Ba .nil [])&&V.under h.length (Ba .nil []))=true:=by simp[Bd,ABc,Ba,V.under,Aa,bL]
 rw[w,if_pos c];rfl
theorem AKA {n:Nat} {h:List V}:(if(List.all [] V.okE)=true then AV n h (V.tup [])else none)=some (.tup [],h.take n):=rfl
theorem Jg {h:List V} {id:Nat} {a b:V}:(h.set id a).set id b=h.set id b:=by simp
theorem AIS {id:Nat} (h0:List V) (hid:id<h0.length):∀(k n:Nat) (f:Fl) (l:List UInt8) (h:List V),h=h0.set id (Ba f l)→OK f→n<128^k→n<18446744073709551616→0<k→l.length+k≤2147483648→
 Rf (ET id) (.int .u64 (n:Int)) h0.length h=some (.tup [],h0.set id (Ba .own (l++Ia k n))):=by
 intro k
 induction k with
 |zero=>intro n f l h _ _ _ _ h0 _;omega
 |succ k ih=>
  intro n f l h eh hf hn h64 _ hl
  have hh:h[id]?=some (Ba f l):=by rw[eh,List.getElem?_set];simp[hid]
  have hw:(h.set id (Ba (wk f) l))[id]?=some (Ba (wk f) l):=Yv _ hh
  rw[Zr,ABM]
  by_cases hb:n<128
  ·refine(AJ4 (by omega) _).trans ?_
   rw[BR,ABP]
   refine(VI _).trans<|(AB3 _).trans<|(Y3 hh _).trans ?_
   refine(cv8 _).trans<|(app1 hf (by omega) _ (Nat.mod_lt _ (by decide)) _).trans<|(VI _).trans<|(AB3 _).trans<|(AB4 hw _).trans ?_
   rw[AKA,Jg,Nat.mod_eq_of_lt (by omega),Ia,if_pos hb,eh,Jg,List.take_of_length_le (by simp)]
  ·refine(AJ3 (by omega) _).trans ?_
   rw[BQ,ABN]
   refine(VI _).trans<|(AB3 _).trans<|(Y3 hh _).trans ?_
   refine(cv8 _).trans<|(AB (AMR _ (Nat.mod_lt _ (by decide))) _).trans<|(app1 hf (by omega) _ (by omega) _).trans<|(VI _).trans<|(AB3 _).trans<|(AB4 hw _).trans ?_
   rw[ABO]
   have hs:AL .shr (.int .u64 (n:Int)) (.int .u64 7)=some (.int .u64 ((n/128:Nat):Int)):=by
    rw[U0 _ _ _ _ (by omega)]
    have:min ((7:Int)).toNat (IntKind.u64).bits=7:=by decide
    rw[this];exact congrArg _ (congrArg _ (Ob n 7))
   refine(AB hs _).trans ?_
   rw[Jg,show n%256%128=n%128 by omega,Ia,if_neg hb]
   have k0:0<k:=by
    rcases Nat.eq_zero_or_pos k with h|h
    ·subst h;simp at hn;omega
    ·exact h
   have:=ih (n/128) .own (l++[UInt8.ofNat (n%128+128)]) (h.set id (Ba .own (l++[UInt8.ofNat (n%128+128)]))) (by rw[eh,Jg]) (Or.inl rfl) (by rw[Nat.pow_succ]at hn;omega) (by omega) k0 (by simp;omega)
   rw[List.append_assoc,List.singleton_append]at this
   exact this
theorem KJ {h:List V} {id n:Nat} {f:Fl} {l:List UInt8} (hh:h[id]?=some (Ba f l)) (hf:OK f) (hn:n<18446744073709551616) (hl:l.length+10≤2147483648):
 Cl 69 [ET id,.int .u64 (n:Int)] h=some (.tup [],h.set id (Ba .own (l++BV n))):=by
 rw[AHr]
 exact AIS h (SA hh) 10 n f l h (AEq hh).symm hf (Nat.lt_of_lt_of_le hn (by decide)) hn (by omega) hl
theorem AKB (id:Nat) (x:Int) (k:IntKind):AY [ET id,.int k x]=[ET id,.int k x]:=rfl
theorem Oo {h:List V} {id:Nat} {f:Fl} {l:List UInt8} (hh:h[id]?=some (Ba f l)):Cl 71 [ET id] h=some (.str l,h):=by
 rw[AHs,ABQ,ABR]
 refine(VI _).trans<|(AB3 _).trans ?_
 have r:rd h id [0]=some (bL f l):=Rz hh rfl
 refine(AB (show DZ h 172 (.ref id [0] 172)=some (bL (wk f) l)by simp[DZ,CS r,Y2]) _).trans ?_
 refine(AB (show conv P h 172 9 (bL (wk f) l)=some (.str l)by simp[conv,OZ,F6,LH,bL,Ad,I4]) _).trans ?_
 rw[JZ,List.take_of_length_le (Nat.le_refl _)]
def Lp (n:Int):Nat:=if 0≤n then(2*n).toNat else(-2*n-1).toNat
theorem Zx {h:List V} {id:Nat} {n:Int} {f:Fl} {l:List UInt8} (hh:h[id]?=some (Ba f l)) (hf:OK f) (h1: -9223372036854775808≤n) (h2:n<9223372036854775808) (hl:l.length+10≤2147483648):
 Cl 129 [ET id,.int .i64 n] h=some (.tup [],h.set id (Ba .own (l++BV (Lp n)))):=by
 rw[AEC,Xq]
 refine(AB (CV ES ..) _).trans ?_
 refine(AB (AGk _ _ _ _ (by omega)) _).trans ?_
 refine(AB (U0 _ _ _ _ (by omega)) _).trans ?_
 have m1:min ((1:Int)).toNat (IntKind.u64).bits=1:=by decide
 have m63:min ((63:Int)).toNat (IntKind.i64).bits=63:=by decide
 rw[m1,m63]
 refine(AB (CV ES ..) _).trans ?_
 have key:AL .xor (.int .u64 (IntKind.wrap .u64 (IntKind.wrap .u64 n*2^1))) (.int .u64 (IntKind.wrap .u64 (n.fdiv (2^63))))=some (.int .u64 ((Lp n:Nat):Int)):=by
  rw[FC,FC,FC]
  by_cases hn:0≤n
  ·have e1:n%18446744073709551616*2^1%18446744073709551616=(((2*n).toNat:Nat):Int):=by omega
   have e2:n.fdiv (2^63)%18446744073709551616=((0:Nat):Int):=by
    rw[Int.fdiv_eq_ediv_of_nonneg _ (by decide)];omega
   rw[e1,e2,u64_xor (by omega) (by omega),Nat.xor_zero,Lp,if_pos hn]
  ·have e1:n%18446744073709551616*2^1%18446744073709551616=((18446744073709551615-(-2*n-1).toNat:Nat):Int):=by omega
   have e2:n.fdiv (2^63)%18446744073709551616=((18446744073709551615:Nat):Int):=by
    rw[Int.fdiv_eq_ediv_of_nonneg _ (by decide)];omega
   have hb:(-2*n-1).toNat<18446744073709551616:=by omega
   rw[e1,e2,u64_xor (by omega) (by omega),Lp,if_neg hn]
   generalize (-2*n-1).toNat=m at hb
   have hx:∀x:Nat,x<18446744073709551616→x ^^^ 18446744073709551615=18446744073709551615-x:=by
    intro x hx
    apply Nat.eq_of_testBit_eq
    intro i
    rw[show 18446744073709551615-x=2^64-(x+1)by omega,Nat.testBit_two_pow_sub_succ (n:=64) hx i,Nat.testBit_xor,show(18446744073709551615:Nat)=2^64-1 by rfl,Nat.testBit_two_pow_sub_one]
    by_cases hi:i<64
    ·simp[hi]
    ·have:x.testBit i=false:=Nat.testBit_lt_two_pow (Nat.lt_of_lt_of_le hx (Nat.pow_le_pow_right (n:=2) (i:=64) (by decide) (by omega)))
     simp[hi,this]
   rw[hx _ (by omega)]
   congr 3;omega
 refine(AB key _).trans ?_
 rw[AKB]
 have hu:Lp n<18446744073709551616:=by simp only[Lp];split<;>omega
 refine(AB (KJ hh hf hu hl) _).trans ?_
 rw[AKA,List.take_of_length_le (by simp)]
end
end Go.Proofs.YtoakaehjnbhgmaaGreatDoor
