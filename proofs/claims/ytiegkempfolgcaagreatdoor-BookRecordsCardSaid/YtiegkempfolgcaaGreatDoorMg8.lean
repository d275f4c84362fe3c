/-
  Part of the proof of a statement about the given program: an abstract machine over its code, the simulation, its functions' equations, what they compute.
-/
import Derived.Test.YtiegkempfolgcaaGreatDoorMg5
import Derived.Test.YtiegkempfolgcaaGreatDoorMg6
import Derived.Test.YtiegkempfolgcaaGreatDoorMg7
set_option linter.unusedVariables false
set_option linter.unusedSimpArgs false
set_option linter.unusedSectionVars false
set_option maxRecDepth 100000
noncomputable section
namespace Go.Proofs.YtiegkempfolgcaaGreatDoor
section
open Go AM
end
section
open Go AM
section
variable {P:Program}
theorem OC {t u:TypeId} {fs:List TypeId} {f:Nat} {ft:TypeId} (hk:K P t= .struct u fs) (hf:fs[f]?=some ft) (hc:P.cellsOf ft≠0) (id:Nat) (p:List Nat):BA P t f (.ref id p t)=some (.ref id (p++[f]) ft):=by
 simp[BA,hk,hf,hc]
theorem DI {h:List V} {t:TypeId} {id:Nat} {p:List Nat} {v:V} (hr:rd h id p=some v):Ae h t (.ref id p t)=some v:=by simp[Ae,hr]
theorem JR {h:List V} {t:TypeId} {v:V}:Ae h t (.rop t v)=some v:=by simp[Ae]
theorem FM {h:List V} {id:Nat} {v:V} (hv:h[id]?=some v):rd h id []=some v:=by simp[rd,hv,V.at]
theorem OD {h:List V} {id i:Nat} {u:TypeId} {fs:List V} {v:V} (hv:h[id]?=some (.agg u fs)) (hi:fs[i]?=some v):rd h id [i]=some v:=by simp[rd,hv,V.at,hi]
theorem EF {h:List V} {t:TypeId} {id:Nat} {v w:V} (hw:h[id]?=some w) (ht:BQ P t v=true) (hu:v.under (id+1)=true):Ht P h t (.ref id [] t) v=some (h.set id v):=by
 simp[Ht,ht,hu,wr,hw,V.upd]
theorem L9 {h:List V} {t u:TypeId} {id i:Nat} {fs:List V} {v x:V} (hw:h[id]?=some (.agg u fs)) (hi:fs[i]?=some x) (ht:BQ P t v=true) (hu:v.under (id+1)=true):Ht P h t (.ref id [i] t) v=some (h.set id (.agg u (fs.set i v))):=by
 simp[Ht,ht,hu,wr,hw,V.upd,hi]
end
theorem AB7 {α:Type} (h:List α) (z:α):(h++[z])[h.length]?=some z:=by simp
theorem AEU {α:Type} {h:List α} {i:Nat} {x:α} (z:List α) (hx:h[i]?=some x):(h++z)[i]?=some x:=by
 have hi:i<h.length:=by
  rcases Nat.lt_or_ge i h.length with h'|h'
  ·exact h'
  ·rw[List.getElem?_eq_none h']at hx;cases hx
 rw[List.getElem?_append_left hi];exact hx
theorem JS {α:Type} {h:List α} {i:Nat} {x:α} (y:α) (hx:h[i]?=some x):(h.set i y)[i]?=some y:=by
 have hi:i<h.length:=by
  rcases Nat.lt_or_ge i h.length with h'|h'
  ·exact h'
  ·rw[List.getElem?_eq_none h']at hx;cases hx
 rw[List.getElem?_set];simp[hi]
theorem Wl {α:Type} {h:List α} {i j:Nat} (y:α) (hij:j≠i):(h.set i y)[j]?=h[j]?:=by
 rw[List.getElem?_set];simp[Ne.symm hij]
theorem AEV {α:Type} {l:List α} {i:Nat} {a:α} (h:l[i]?=some a):l.set i a=l:=by
 apply List.ext_getElem?
 intro j
 by_cases hj:j=i
 ·subst hj;rw[JS a h,h]
 ·rw[Wl a hj]
theorem OE {α:Type} {h:List α} {i:Nat} {x:α} (hx:h[i]?=some x):i<h.length:=by
 rcases Nat.lt_or_ge i h.length with h'|h'
 ·exact h'
 ·rw[List.getElem?_eq_none h']at hx;cases hx
theorem AEW {α:Type} {h:List α} {i:Nat} (z:List α) (y:α) (hi:i<h.length):(h++z).set i y=h.set i y++z:=by rw[List.set_append_left _ _ hi]
theorem take_set {α:Type} (h z:List α) (i:Nat) (y:α):(h.set i y++z).take h.length=h.set i y:=by
 have:(h.set i y).length=h.length:=by simp
 rw[←this];simp
theorem AB8 {R:Type} {f:FuncId} {cs vs h:List V} (k:V→List V→Option R) (he:D9.ext f=false) (hp:D9.pure f=false) (hs:(D9.seq f).1=0:=by kernel_rfl):CP P D9 W (.clo f cs) vs h k=(Cl f (AP (vs++cs)) h).bind fun r=>k r.1 r.2:=by
 simp only[CP,GV,he,hp,hs,ne_eq,not_true_eq_false,Bool.false_eq_true,if_false,if_true];rfl
theorem MB {R:Type} {f:FuncId} {cs vs h:List V} (k:V→List V→Option R) (he:D9.ext f=false) (hp:D9.pure f=true) (hs:(D9.seq f).1=0:=by kernel_rfl):CP P D9 W (.clo f cs) vs h k=(Cl f (AL h (vs++cs)) []).bind fun r=>k r.1 h:=by
 simp only[CP,GV,he,hp,hs,ne_eq,not_true_eq_false,Bool.false_eq_true,if_false,if_true];rfl
end
section
open Go AM
def OG (s:List UInt8) (e:Nat):V:= .agg 129 [.str s,.int .i64 (e:Int)]
def Zk (id:Nat):V:= .ref id [] 130
theorem MC (n:Nat) (h:List V) (k:IntKind) (b:Int):AY n h (.int k b)=some (.int k b,h.take n):=rfl
theorem MF (n:Nat) (h:List V) (s:List UInt8):AY n h (.str s)=some (.str s,h.take n):=rfl
theorem OH (h:List V) (s:List UInt8):Cl 54 [.str s] h=some (Zk h.length,h++[OG s 0]):=by
 rw[AHX]
 have e1:bld P 130 [(0,V.str s)]=some (OG s 0):=by
  simp[bld,AGP,AHy,CS,BQ,K_9,Bd,QW,cp,AHt,OG]
 have e2:BQ P 130 (OG s 0)=true:=by simp[BQ,AGP,OG]
 have e3:V.under h.length (OG s 0)=true:=rfl
 simp only[ABd,ABe,e1,Option.bind_some,e2,e3,Bool.and_self,if_true,UB]
 rfl
end
section
open Go AM
def vw (n:Nat):V:= .int .u32 (n:Int)
def JU (l:List Nat):List V:=l.map vw
def A8 (l:List Nat):V:= .agg 184 (JU l)
def Pv (l:List Nat):V:= .agg 204 (JU l)
def B32 (l:List Nat):Prop:=∀x∈l,x<4294967296
def FN (x n:Nat):Nat:=x*2^(32-n)%4294967296|||x/2^n
theorem DJ {x n:Nat} (hx:x<4294967296):FN x n<4294967296:=
 Nat.or_lt_two_pow (n:=32) (Nat.mod_lt _ (by decide)) (Nat.lt_of_le_of_lt (Nat.div_le_self _ _) hx)
theorem Ez (n:Int):IntKind.wrap .u64 n=n%18446744073709551616:=by simp[IntKind.wrap,IntKind.bits,IntKind.signed]
theorem OI (a n:Nat):Int.fdiv (a:Int) (2^n)=((a/2^n:Nat):Int):=by
 have e:(2:Int)^n=((2^n:Nat):Int):=by push_cast;rfl
 rw[e,Int.fdiv_eq_ediv_of_nonneg _ (Int.natCast_nonneg _)];rfl
theorem MG {a:Nat} (n:Nat) (hn:n≤32):AO .shr (.int .u32 (a:Int)) (.int .u64 (n:Int))=some (.int .u32 ((a/2^n:Nat):Int)):=by
 rw[Ut _ _ _ _ (by omega)]
 have:min ((n:Int)).toNat (IntKind.u32).bits=n:=by simp[IntKind.bits];omega
 rw[this,OI]
theorem MH {a:Nat} (n:Nat) (hn:n≤32):AO .shl (.int .u32 (a:Int)) (.int .u64 (n:Int))=some (.int .u32 ((a*2^n%4294967296:Nat):Int)):=by
 rw[AGS _ _ _ _ (by omega)]
 have:min ((n:Int)).toNat (IntKind.u32).bits=n:=by simp[IntKind.bits];omega
 rw[this]
 have e:((a:Int)*2^n)=((a*2^n:Nat):Int):=by push_cast;rfl
 rw[e,Fp]
theorem AEX (a b:Nat):AO .add (.int .u32 (a:Int)) (.int .u32 (b:Int))=some (.int .u32 (((a+b)%4294967296:Nat):Int)):=by
 rw[Dp,show(a:Int)+(b:Int)=((a+b:Nat):Int)by omega,Fp]
theorem AEY {x:Nat} (hx:x<4294967296) (n:Nat) (h1:1≤n) (h2:n≤31):Cl 156 [.int .u32 (x:Int),.int .i64 (n:Int)] []=some (.int .u32 (FN x n:Int),[]):=by
 have key:Cl 172 [.int .u32 (x:Int),.int .i64 (-(n:Int))] []=some (.int .u32 (FN x n:Int),[]):=by
  rw[AER]
  have w:IntKind.wrap .u64 (-(n:Int))=((18446744073709551616-n:Nat):Int):=by rw[Ez];omega
  have m:(18446744073709551616-n)&&& 31=32-n:=by
   rw[show(31:Nat)=2^5-1 from rfl,Nat.and_two_pow_sub_one_eq_mod];omega
  simp only[Yf,Yg,Yh,Cf Sm,w,Option.bind_some]
  rw[show(31:Int)=((31:Nat):Int)from rfl,u64_and (by omega) (by omega),m,Option.bind_some,MH _ (by omega),Option.bind_some,OB,show(32:Int)-((32-n:Nat):Int)=(n:Int)by omega,wrap_u64 (by omega) (by omega),Option.bind_some,MG _ (by omega),Option.bind_some,
   u32_or (Nat.mod_lt _ (by decide)) (Nat.lt_of_le_of_lt (Nat.div_le_self _ _) hx),Option.bind_some,MC]
  rfl
 rw[AEQ]
 have ng:un .neg (.int .i64 (n:Int))=some (.int .i64 (-(n:Int))):=by
  simp only[un];rw[show(0:Int)-(n:Int)= -(n:Int)by omega,wrap_i64 (by omega) (by omega)]
 have e:AL [] [V.int .u32 (x:Int),V.int .i64 (-(n:Int))]=[V.int .u32 (x:Int),V.int .i64 (-(n:Int))]:=rfl
 simp only[Yd,Ye,ng,Option.bind_some,e,key]
 rfl
theorem AJr {h:List V} {x:Nat} (hx:x<4294967296) (n:Nat) (h1:1≤n) (h2:n≤31):Cl 156 (AL h [.int .u32 (x:Int),.int .i64 (n:Int)]) []=some (.int .u32 (FN x n:Int),[]):=AEY hx n h1 h2
theorem Hz {l:List Nat} {i:Nat} (hi:i<l.length):(JU l)[i]?=some (vw (l.getD i 0)):=by
 simp[JU,List.getElem?_map,List.getElem?_eq_getElem hi]
theorem B32.get {l:List Nat} (h:B32 l) (i:Nat):l.getD i 0<4294967296:=by
 rcases Nat.lt_or_ge i l.length with hi|hi
 ·rw[List.getD_eq_getElem?_getD,List.getElem?_eq_getElem hi];exact h _ (List.getElem_mem hi)
 ·rw[List.getD_eq_getElem?_getD,List.getElem?_eq_none hi];decide
theorem Yl (l:List Nat) (i x:Nat):(JU l).set i (vw x)=JU (l.set i x):=by simp[JU,List.map_set]
theorem AH0 {id i:Nat} (hi:i<64):Ag P 204 (.ref id [] 204) (.int .i64 (i:Int))=some (.ref id [i] 149):=by
 have:inside (i:Int) 64=true:=by simp[inside];omega
 simp[Ag,AGR,this]
theorem ix8 {id i:Nat} (hi:i<8):Ag P 184 (.ref id [] 184) (.int .i64 (i:Int))=some (.ref id [i] 149):=by
 have:inside (i:Int) 8=true:=by simp[inside];omega
 simp[Ag,KZ,this]
theorem ixK {i:Nat} (hi:i<64) {l:List Nat} (hl:l.length=64):Ag P 204 (.rop 204 (Pv l)) (.int .i64 (i:Int))=some (.rop 149 (vw (l.getD i 0))):=by
 have:inside (i:Int) 64=true:=by simp[inside];omega
 simp[Ag,AGR,this,Pv,Hz (show i<l.length by omega)]
theorem AJs (x:Nat):BQ P 149 (vw x)=true:=by simp[BQ,AGQ,Bd,Sr,vw]
theorem AMO {h:List V} {id i:Nat} {l:List Nat} (hh:h[id]?=some (Pv l)) (hi:i<l.length):Ae h 149 (.ref id [i] 149)=some (vw (l.getD i 0)):=DI (OD hh (Hz hi))
theorem ld8 {h:List V} {id i:Nat} {l:List Nat} (hh:h[id]?=some (A8 l)) (hi:i<l.length):Ae h 149 (.ref id [i] 149)=some (vw (l.getD i 0)):=DI (OD hh (Hz hi))
theorem AJt {h:List V} {id i x:Nat} {l:List Nat} (hh:h[id]?=some (Pv l)) (hi:i<l.length):Ht P h 149 (.ref id [i] 149) (vw x)=some (h.set id (Pv (l.set i x))):=by
 rw[L9 hh (Hz hi) (AJs x) rfl,Yl];rfl
theorem st8 {h:List V} {id i x:Nat} {l:List Nat} (hh:h[id]?=some (A8 l)) (hi:i<l.length):Ht P h 149 (.ref id [i] 149) (vw x)=some (h.set id (A8 (l.set i x))):=by
 rw[L9 hh (Hz hi) (AJs x) rfl,Yl];rfl
def wordAt (p:List UInt8) (t:Nat):Nat:=((p.getD (4*t) 0).toNat*2^24%4294967296|||(p.getD (4*t+1) 0).toNat*2^16%4294967296)|||(p.getD (4*t+2) 0).toNat*2^8%4294967296|||(p.getD (4*t+3) 0).toNat
def Uu (p:List UInt8):Nat→Nat→List Nat→List Nat
 |0,_,w=>w
 |n+1,t,w=>Uu p n (t+1) (w.set t (wordAt p t))
theorem Zl (p:List UInt8) (t:Nat):wordAt p t<4294967296:=by
 have h3:(p.getD (4*t+3) 0).toNat<2^32:=Nat.lt_of_lt_of_le (UInt8.toNat_lt _) (by decide)
 refine Nat.or_lt_two_pow (n:=32) (Nat.or_lt_two_pow (n:=32) (Nat.or_lt_two_pow (n:=32) (Nat.mod_lt _ (by decide)) (Nat.mod_lt _ (by decide))) (Nat.mod_lt _ (by decide))) h3
theorem B32.set {l:List Nat} (h:B32 l) (i:Nat) {x:Nat} (hx:x<4294967296):B32 (l.set i x):=by
 intro y hy
 rcases List.mem_or_eq_of_mem_set hy with hy|rfl
 ·exact h y hy
 ·exact hx
theorem QY {p:List UInt8} {i:Nat} (hi:i<p.length):(bytesOf p)[i]?=some (.int .u8 ((p.getD i 0).toNat:Int)):=by
 simp[bytesOf,List.getElem?_map,List.getElem?_eq_getElem hi]
theorem ixB {xs:List V} {f:Fl} {i:Nat} {v:V} (hv:xs[i]?=some v):Ag P 68 (.lst 5 f xs) (.int .i64 (i:Int))=some (.rop 5 v):=by
 have hi:=OE hv
 have:inside (i:Int) xs.length=true:=by simp[inside,hi]
 simp[Ag,Gf,this,hv]
theorem ixW {xs:List V} {f:Fl} {i:Nat} {v:V} (hv:xs[i]?=some v):Ag P 68 (V.weak (.lst 5 f xs)) (.int .i64 (i:Int))=some (.rop 5 v):=by
 cases f<;>exact ixB hv
theorem AEZ {h:List V} {f:Fl} {p:List UInt8} {t:Nat} {l:List Nat} (hp:4*t+4≤p.length) (ht:t<64) (hh:h[2]?=some (Pv l)) (hl:l.length=64) (K:List V→Option (V×List V)):
 SX (.ref 2 [] 204) (.int .i64 (t:Int)) (.lst 5 f (((bytesOf p).take (4*t+4)).drop (4*t))) h K=K (h.set 2 (Pv (l.set t (wordAt p t)))):=by
 have g:∀j,j<4→(((bytesOf p).take (4*t+4)).drop (4*t))[j]?=some (.int .u8 ((p.getD (4*t+j) 0).toNat:Int)):=by
  intro j hj
  rw[List.getElem?_drop,List.getElem?_take_of_lt (by omega),QY (by omega)]
 have i0:=ixW (f:=f) (g 0 (by omega));have i1:=ixW (f:=f) (g 1 (by omega));have i2:=ixW (f:=f) (g 2 (by omega));have i3:=ixW (f:=f) (g 3 (by omega))
 have b:∀j,(p.getD j 0).toNat<256:=fun j=>UInt8.toNat_lt _
 have c:∀x:Nat,x<256→conv P h 5 149 (.int .u8 (x:Int))=some (.int .u32 (x:Int)):=fun x hx=>by rw[Cf Sr,wrap_u32 (by omega) (by omega)]
 have s24:∀x:Nat,AO .shl (.int .u32 (x:Int)) (.int .u64 24)=some (.int .u32 ((x*2^24%4294967296:Nat):Int)):=fun x=>MH (a:=x) 24 (by omega)
 have s16:∀x:Nat,AO .shl (.int .u32 (x:Int)) (.int .u64 16)=some (.int .u32 ((x*2^16%4294967296:Nat):Int)):=fun x=>MH (a:=x) 16 (by omega)
 have s8:∀x:Nat,AO .shl (.int .u32 (x:Int)) (.int .u64 8)=some (.int .u32 ((x*2^8%4294967296:Nat):Int)):=fun x=>MH (a:=x) 8 (by omega)
 have m:∀x:Nat,x%4294967296<4294967296:=fun x=>Nat.mod_lt _ (by decide)
 have o1:=Nat.or_lt_two_pow (n:=32) (m ((p.getD (4*t+0) 0).toNat*2^24)) (m ((p.getD (4*t+1) 0).toNat*2^16))
 have o2:=Nat.or_lt_two_pow (n:=32) o1 (m ((p.getD (4*t+2) 0).toNat*2^8))
 simp only[SX]
 rw[show(0:Int)=((0:Nat):Int)from rfl,show(1:Int)=((1:Nat):Int)from rfl,show(2:Int)=((2:Nat):Int)from rfl,show(3:Int)=((3:Nat):Int)from rfl,i0,i1,i2,i3]
 simp only[Option.bind_some,JR,c _ (b _),s24,s16,s8]
 rw[u32_or (m _) (m _)]
 simp only[Option.bind_some]
 rw[u32_or o1 (m _)]
 simp only[Option.bind_some]
 rw[u32_or o2 (by have:=b (4*t+3);omega)]
 simp only[Option.bind_some]
 rw[AH0 ht,Option.bind_some]
 exact(congrArg (fun z=>Option.bind z fun h_1=>K h_1) (AJt (x:=wordAt p t) hh (by omega))).trans rfl
end
section
open Go AM
def sg0 (x:Nat):Nat:=(FN x 7 ^^^ FN x 18) ^^^ x/2^3
def sg1 (x:Nat):Nat:=(FN x 17 ^^^ FN x 19) ^^^ x/2^10
def ad (a b:Nat):Nat:=(a+b)%4294967296
def QZ:Nat→Nat→List Nat→List Nat
 |0,_,w=>w
 |n+1,t,w=>QZ n (t+1) (w.set t (ad (ad (ad (w.getD (t-16) 0) (w.getD (t-7) 0)) (sg0 (w.getD (t-15) 0))) (sg1 (w.getD (t-2) 0))))
theorem AB9 (a b:Nat):ad a b<4294967296:=Nat.mod_lt _ (by decide)
theorem OJ {a b:Nat} (ha:a<4294967296) (hb:b<4294967296):a ^^^ b<4294967296:=Nat.xor_lt_two_pow (n:=32) ha hb
theorem AH1 {a b:Nat} (ha:a<4294967296) (hb:b<4294967296):a|||b<4294967296:=Nat.or_lt_two_pow (n:=32) ha hb
theorem Sv {a b:Nat} (ha:a<4294967296):a&&& b<4294967296:=Nat.lt_of_le_of_lt Nat.and_le_left ha
theorem Ym {a:Nat} (n:Nat) (ha:a<4294967296):a/n<4294967296:=Nat.lt_of_le_of_lt (Nat.div_le_self _ _) ha
theorem Eb (a b:Nat):AO .add (.int .u32 (a:Int)) (.int .u32 (b:Int))=some (.int .u32 (ad a b:Int)):=AEX a b
def rnd (k:List Nat) (w:List Nat) (t:Nat) (v:List Nat):List Nat:=
 let a:=v.getD 0 0;let b:=v.getD 1 0;let c:=v.getD 2 0;let e:=v.getD 4 0;let f:=v.getD 5 0;let g:=v.getD 6 0
 let x:=ad (ad (ad (ad (v.getD 7 0) ((FN e 6 ^^^ FN e 11) ^^^ FN e 25)) (g ^^^ (e&&& (f ^^^ g)))) (k.getD t 0)) (w.getD t 0)
 let y:=ad ((FN a 2 ^^^ FN a 13) ^^^ FN a 22) ((a&&& b)|||(c&&& (a|||b)))
 [ad x y,a,b,c,ad (v.getD 3 0) x,e,f,g]
def Uw (k w:List Nat):Nat→Nat→List Nat→List Nat
 |0,_,v=>v
 |n+1,t,v=>Uw k w n (t+1) (rnd k w t v)
def Sz (v:List Nat):Nat→Nat→List Nat→List Nat
 |0,_,h=>h
 |n+1,i,h=>Sz v n (i+1) (h.set i (ad (h.getD i 0) (v.getD i 0)))
def EG:List Nat:=(match NC with|V.agg _ l=>l|_=>[]).map fun v=>match v with|V.int _ n=>n.toNat|_=>0
theorem AEa:NC=Pv EG:=by kernel_rfl
theorem AJu:EG.length=64:=by kernel_rfl
def Ux (h:List Nat) (p:List UInt8):List Nat:=
 let w:=QZ 48 16 (Uu p 16 0 (List.replicate 64 0))
 Sz (Uw EG w 64 0 h) 8 0 h
theorem ACA {k w v:List Nat} (hv:B32 v) (t:Nat):B32 (rnd k w t v)∧(rnd k w t v).length=8:=by
 refine⟨?_,rfl⟩
 intro x hx
 simp only[rnd,List.mem_cons,List.not_mem_nil,or_false]at hx
 rcases hx with rfl|rfl|rfl|rfl|rfl|rfl|rfl|rfl<;>first|exact AB9 _ _|exact hv.get _
theorem Yn {v:List Nat}:∀(n i:Nat) (h:List Nat),B32 h→h.length=8→B32 (Sz v n i h)∧(Sz v n i h).length=8
 |0,_,h,hb,hl=>⟨hb,hl⟩
 |n+1,i,h,hb,hl=>Yn n (i+1) _ (hb.set i (AB9 _ _)) (by simp[hl])
theorem Qa (h:List V):∀l:List Nat,CQ h (JU l)=JU l
 |[]=>rfl
 |x::l=>by simp only[JU,List.map_cons,CQ];rw[show List.map vw l=JU l from rfl,Qa h l];rfl
theorem Uy:∀l:List Nat,AP (JU l)=JU l
 |[]=>rfl
 |x::l=>by simp only[JU,List.map_cons,AP];rw[show List.map vw l=JU l from rfl,Uy l];rfl
theorem Qb:∀l:List Nat,AU (JU l)=true
 |[]=>rfl
 |x::l=>by simp only[JU,List.map_cons,AU];rw[show List.map vw l=JU l from rfl,Qb l];rfl
theorem Uz (n:Nat):∀l:List Nat,DC n (JU l)=true
 |[]=>rfl
 |x::l=>by simp only[JU,List.map_cons,DC];rw[show List.map vw l=JU l from rfl,Uz n l];rfl
theorem EX (n:Nat):∀l:List Nat,Ad n (JU l)=true
 |[]=>rfl
 |x::l=>by simp only[JU,List.map_cons,Ad];rw[show List.map vw l=JU l from rfl,EX n l];rfl
theorem AH2 (n:Nat) (h:List V) (l:List Nat):AY n h (A8 l)=some (A8 l,h.take n):=by
 simp only[AY,A8,V.unmut,Qa,V.norm,Uy,V.clean,Qb,V.over,Uz,Bool.and_self,if_true]
theorem AEb (v:List Nat) (hv:v.length=8) (x w z:V):∀(n i:Nat) (hs:List Nat),i+n=8→hs.length=8→
 L6 (.ref 0 [] 184) (.ref 1 [] 184) (A8 v) (.int .i64 (i:Int)) [A8 hs,A8 (List.replicate 8 0),w,z]=some (A8 (Sz v n i hs),[]):=by
 intro n
 induction n with
 |zero=>
  intro i hs hi hl
  rw[Nw]
  have:¬((i:Int)<8):=by omega
  have l0:Ae [A8 hs,A8 (List.replicate 8 0),w,z] 184 (.ref 0 [] 184)=some (A8 hs):=DI (FM rfl)
  have s1:Ht P [A8 hs,A8 (List.replicate 8 0),w,z] 184 (.ref 1 [] 184) (A8 hs)=some [A8 hs,A8 hs,w,z]:=
   EF rfl (by simp[BQ,KZ,A8]) (by simp only[A8,V.under];exact EX _ _)
  have l1:Ae [A8 hs,A8 hs,w,z] 184 (.ref 1 [] 184)=some (A8 hs):=DI (FM rfl)
  simp only[Nv,Ur,b_lss,Option.bind_some,AB4,this,if_false,l0,s1,l1,AH2,List.take_zero,Sz]
 |succ n ih=>
  intro i hs hi hl
  rw[Nw]
  have hlt:(i:Int)<8:=by omega
  have ix:Jz P 184 (A8 v) (.int .i64 (i:Int))=some (vw (v.getD i 0)):=by
   have:inside (i:Int) 8=true:=by simp[inside];omega
   simp[Jz,A8,KZ,this,Hz (show i<v.length by omega),cp,AB3]
  have l0:Ae [A8 hs,A8 (List.replicate 8 0),w,z] 149 (.ref 0 [i] 149)=some (vw (hs.getD i 0)):=ld8 rfl (by omega)
  have s0:Ht P [A8 hs,A8 (List.replicate 8 0),w,z] 149 (.ref 0 [i] 149) (vw (ad (hs.getD i 0) (v.getD i 0)))=some [A8 (hs.set i (ad (hs.getD i 0) (v.getD i 0))),A8 (List.replicate 8 0),w,z]:=st8 rfl (by omega)
  have a0:AO .add (vw (hs.getD i 0)) (vw (v.getD i 0))=some (vw (ad (hs.getD i 0) (v.getD i 0))):=Eb _ _
  simp only[Nv,Um,Un,Uo,b_lss,Option.bind_some,AB4,hlt,if_true,ix,ix8 (show i<8 by omega),l0,a0,s0,Dp]
  rw[show((i:Int)+1)=((i+1:Nat):Int)by omega,wrap_i64 (by omega) (by omega)]
  exact ih (i+1) _ (by omega) (by simp[hl])
theorem AMR {id:Nat} (j:Nat) (hj:j<8):Ag P 184 (.ref id [] 184) (.int .i64 (j:Int))=some (.ref id [j] 149):=ix8 hj
theorem at8 {B:Type} {h:List V} {id:Nat} {v:List Nat} (hh:h[id]?=some (A8 v)) (hv:v.length=8) (j:Nat) (hj:j<8) (K:V→Option B):
 (Ag P 184 (.ref id [] 184) (.int .i64 (j:Int))).bind (fun a=>(Ae h 149 a).bind K)=K (.int .u32 (v.getD j 0:Int)):=by
 rw[AMR j hj,Option.bind_some,ld8 hh (by omega),Option.bind_some];rfl
theorem S9 {B:Type} {h:List V} {id:Nat} {v:List Nat} (hh:h[id]?=some (Pv v)) (hv:v.length=64) (j:Nat) (hj:j<64) (K:V→Option B):
 (Ag P 204 (.ref id [] 204) (.int .i64 (j:Int))).bind (fun a=>(Ae h 149 a).bind K)=K (.int .u32 (v.getD j 0:Int)):=by
 rw[AH0 hj,Option.bind_some,AMO hh (by omega),Option.bind_some];rfl
theorem atK {B:Type} {h:List V} (j:Nat) (hj:j<64) (K:V→Option B):
 (Ag P 204 (.rop 204 NC) (.int .i64 (j:Int))).bind (fun a=>(Ae h 149 a).bind K)=K (.int .u32 (EG.getD j 0:Int)):=by
 rw[AEa,ixK hj AJu,Option.bind_some,JR,Option.bind_some];rfl
theorem trn {B:Type} {h:List V} {x:Nat} (hx:x<4294967296) (m:Nat) (h1:1≤m) (h2:m≤31) (K:V×List V→Option B):
 (Cl 156 (AL h [.int .u32 (x:Int),.int .i64 (m:Int)]) []).bind K=K (.int .u32 (FN x m:Int),[]):=by
 rw[AJr hx m h1 h2,Option.bind_some]
theorem AB {A B:Type} {o:Option A} {x:A} (h:o=some x) (K:A→Option B):o.bind K=K x:=by rw[h];rfl
theorem Iw {B:Type} {k:IntKind} {a b:Int} (h:a<b) (K:V→Option B):(AO .lss (.int k a) (.int k b)).bind K=K (.bool true):=by
 rw[b_lss,Option.bind_some,decide_eq_true h]
theorem Iy {B:Type} {k:IntKind} {a b:Int} (h:¬a<b) (K:V→Option B):(AO .lss (.int k a) (.int k b)).bind K=K (.bool false):=by
 rw[b_lss,Option.bind_some,decide_eq_false h]
theorem BV {B:Type} (a b:Option B):V.ite (.bool true) a b=a:=rfl
theorem BP {B:Type} (a b:Option B):V.ite (.bool false) a b=b:=rfl
theorem ACB {h:List V} {v:List Nat} (hh:h[3]?=some (A8 v)) (hv:v.length=8) (K:V→V→V→V→V→V→Option (V×List V)):
 Nq (.ref 3 [] 184) h K=K (vw (v.getD 0 0)) (vw (v.getD 1 0)) (vw (v.getD 2 0)) (vw (v.getD 4 0)) (vw (v.getD 5 0)) (vw (v.getD 6 0)):=by
 unfold Nq
 exact(at8 hh hv 0 (by omega) _).trans<|(at8 hh hv 1 (by omega) _).trans<|(at8 hh hv 2 (by omega) _).trans<|(at8 hh hv 4 (by omega) _).trans<|(at8 hh hv 5 (by omega) _).trans<|(at8 hh hv 6 (by omega) _)
def chE (e f g h7 k w:Nat):Nat:=ad (ad (ad (ad h7 ((FN e 6 ^^^ FN e 11) ^^^ FN e 25)) (g ^^^ (e&&& (f ^^^ g)))) k) w
def mjA (a b c:Nat):Nat:=ad ((FN a 2 ^^^ FN a 13) ^^^ FN a 22) ((a&&& b)|||(c&&& (a|||b)))
theorem ACC {h:List V} {v w:List Nat} {t e f g:Nat} (hh:h[3]?=some (A8 v)) (hv:v.length=8) (hw:h[2]?=some (Pv w)) (lw:w.length=64) (ht:t<64)
 (be:e<4294967296) (bf:f<4294967296) (bg:g<4294967296) (K:V→Option (V×List V)):
 Nr (.ref 2 [] 204) (.ref 3 [] 184) (.int .i64 (t:Int)) (vw e) (vw f) (vw g) h K=K (vw (chE e f g (v.getD 7 0) (EG.getD t 0) (w.getD t 0))):=by
 have r1:=DJ (n:=6) be;have r2:=DJ (n:=11) be;have r3:=DJ (n:=25) be
 unfold Nr
 refine(at8 hh hv 7 (by omega) _).trans ?_
 refine(trn be 6 (by omega) (by omega) _).trans<|(trn be 11 (by omega) (by omega) _).trans ?_
 refine(AB (u32_xor r1 r2) _).trans ?_
 refine(trn be 25 (by omega) (by omega) _).trans ?_
 refine(AB (u32_xor (OJ r1 r2) r3) _).trans ?_
 refine(AB (Eb _ _) _).trans ?_
 refine(AB (u32_xor bf bg) _).trans ?_
 refine(AB (u32_and be (OJ bf bg)) _).trans ?_
 refine(AB (u32_xor bg (Sv be)) _).trans ?_
 refine(AB (Eb _ _) _).trans ?_
 refine(atK t ht _).trans ?_
 refine(AB (Eb _ _) _).trans ?_
 refine(S9 hw lw t ht _).trans ?_
 exact AB (Eb _ _) _
theorem ACD {h:List V} {a b c:Nat} (ba:a<4294967296) (bb:b<4294967296) (bc:c<4294967296) (K:V→Option (V×List V)):
 Ns (vw a) (vw b) (vw c) h K=K (vw (mjA a b c)):=by
 have r1:=DJ (n:=2) ba;have r2:=DJ (n:=13) ba;have r3:=DJ (n:=22) ba
 unfold Ns
 refine(trn ba 2 (by omega) (by omega) _).trans<|(trn ba 13 (by omega) (by omega) _).trans ?_
 refine(AB (u32_xor r1 r2) _).trans ?_
 refine(trn ba 22 (by omega) (by omega) _).trans ?_
 refine(AB (u32_xor (OJ r1 r2) r3) _).trans ?_
 refine(AB (u32_and ba bb) _).trans ?_
 refine(AB (u32_or ba bb) _).trans ?_
 refine(AB (u32_and bc (AH1 ba bb)) _).trans ?_
 refine(AB (u32_or (Sv ba) (Sv bc)) _).trans ?_
 exact AB (Eb _ _) _
theorem AMT (z0 z1 z2 z3 z4 z5 z6 z7:Nat):bld P 184 [(0,.int .u32 (z0:Int)),(1,.int .u32 (z1:Int)),(2,.int .u32 (z2:Int)),(3,.int .u32 (z3:Int)),(4,.int .u32 (z4:Int)),(5,.int .u32 (z5:Int)),(6,.int .u32 (z6:Int)),(7,.int .u32 (z7:Int))]=some (A8 [z0,z1,z2,z3,z4,z5,z6,z7]):=by
 simp[bld,KZ,Wj,CS,BQ,AGQ,Bd,Sr,cp,AB3,A8,JU,vw,List.replicate]
theorem ACE {h:List V} {v:List Nat} {a b c e f g x y:Nat} (hh:h[3]?=some (A8 v)) (hv:v.length=8) (K:List V→Option (V×List V)):
 Nu (.ref 3 [] 184) (vw a) (vw b) (vw c) (vw e) (vw f) (vw g) (vw x) (vw y) h K=K (h.set 3 (A8 [ad x y,a,b,c,ad (v.getD 3 0) x,e,f,g])):=by
 unfold Nu
 refine(AB (Eb _ _) _).trans ?_
 refine(at8 hh hv 3 (by omega) _).trans ?_
 refine(AB (Eb _ _) _).trans ?_
 refine(AB (AMT _ _ _ _ _ _ _ _) _).trans ?_
 exact AB (EF hh (by simp[BQ,KZ,A8]) (by simp only[A8,V.under];exact EX _ _)) _
theorem AH3 (k w v:List Nat) (t:Nat):rnd k w t v=[ad (chE (v.getD 4 0) (v.getD 5 0) (v.getD 6 0) (v.getD 7 0) (k.getD t 0) (w.getD t 0)) (mjA (v.getD 0 0) (v.getD 1 0) (v.getD 2 0)),v.getD 0 0,v.getD 1 0,v.getD 2 0,
 ad (v.getD 3 0) (chE (v.getD 4 0) (v.getD 5 0) (v.getD 6 0) (v.getD 7 0) (k.getD t 0) (w.getD t 0)),v.getD 4 0,v.getD 5 0,v.getD 6 0]:=rfl
theorem AH4 (k w:List Nat) (n t:Nat) (v:List Nat):Uw k w (n+1) t v=Uw k w n (t+1) (rnd k w t v):=rfl
theorem AEc (h w:List Nat) (hh:h.length=8) (hw:w.length=64) (bw:B32 w):∀(n t:Nat) (v:List Nat),t+n=64→B32 v→v.length=8→
 Lu (.ref 0 [] 184) (.ref 1 [] 184) (.ref 2 [] 204) (.ref 3 [] 184) (.int .i64 (t:Int)) [A8 h,A8 (List.replicate 8 0),Pv w,A8 v]=
  some (A8 (Sz (Uw EG w n t v) 8 0 h),[]):=by
 intro n
 induction n with
 |zero=>
  intro t v ht bv hv
  rw[Ny]
  have:¬((t:Int)<64):=by omega
  have l3:Ae [A8 h,A8 (List.replicate 8 0),Pv w,A8 v] 184 (.ref 3 [] 184)=some (A8 v):=DI (FM rfl)
  simp only[Np,Ul,b_lss,Option.bind_some,AB4,this,if_false,l3,Uw]
  exact AEb v hv (A8 v) (Pv w) (A8 v) 8 0 h rfl hh
 |succ n ih=>
  intro t v ht bv hv
  rw[Ny]
  have hlt:(t:Int)<64:=by omega
  have ht':t<64:=by omega
  rw[Np,Iw hlt,BV,Uj]
  rw[ACB rfl hv,ACC rfl hv rfl hw ht' (bv.get 4) (bv.get 5) (bv.get 6),ACD (bv.get 0) (bv.get 1) (bv.get 2),ACE rfl hv,←AH3]
  simp only[Uk,Dp]
  rw[show((t:Int)+1)=((t+1:Nat):Int)by omega,wrap_i64 (by omega) (by omega),AH4]
  have st:[A8 h,A8 (List.replicate 8 0),Pv w,A8 v].set 3 (A8 (rnd EG w t v))=[A8 h,A8 (List.replicate 8 0),Pv w,A8 (rnd EG w t v)]:=rfl
  rw[st]
  exact ih (t+1) _ (by omega) (ACA bv t).1 (ACA bv t).2
end
section
open Go AM
theorem LW {B:Type} {a b:Nat} (h:b≤a) (ha:a<2^62) (K:V→Option B):(AO .sub (.int .i64 (a:Int)) (.int .i64 (b:Int))).bind K=K (.int .i64 ((a-b:Nat):Int)):=by
 rw[OB,show(a:Int)-(b:Int)=((a-b:Nat):Int)by omega,wrap_i64 (by omega) (by omega)];rfl
theorem KA {B:Type} {a b:Nat} (h:a+b<2^62) (K:V→Option B):(AO .add (.int .i64 (a:Int)) (.int .i64 (b:Int))).bind K=K (.int .i64 ((a+b:Nat):Int)):=by
 rw[Dp,show(a:Int)+(b:Int)=((a+b:Nat):Int)by omega,wrap_i64 (by omega) (by omega)];rfl
theorem AEd {B:Type} {a b:Nat} (h:a*b<2^62) (K:V→Option B):(AO .mul (.int .i64 (a:Int)) (.int .i64 (b:Int))).bind K=K (.int .i64 ((a*b:Nat):Int)):=by
 rw[Us,←Int.natCast_mul,wrap_i64 (by omega) (by omega)];rfl
theorem AJv {f:Fl} {t s:TypeId} {xs:List V} {a b:Nat} (k:K P s= .slice t) (h1:a≤b) (h2:b≤xs.length):
 LV P s (V.weak (.lst t f xs)) (some (.int .i64 (a:Int))) (some (.int .i64 (b:Int))) none=some (.lst t f.cut ((xs.take b).drop a)):=by
 have e1:(0:Int)≤(b:Int)∧b≤xs.length:=⟨by omega,h2⟩
 have e2:(0:Int)≤(a:Int)∧(a:Int)≤(b:Int):=⟨by omega,by omega⟩
 cases f<;>simp[LV,V.weak,k,BU,e1,e2,Fl.cut,h1,h2]
section
variable {h:List V} {w:List Nat} {t:Nat}
variable (hw:h[2]?=some (Pv w)) (lw:w.length=64) (bw:B32 w) (ht:t<64)
include hw lw bw ht
theorem ACF (h16:16≤t) (K:V→Option (V×List V)):
 Nj (.ref 2 [] 204) (.int .i64 (t:Int)) h K=K (vw (sg0 (w.getD (t-15) 0))):=by
 have b:=bw.get (t-15)
 unfold Nj
 refine(LW (b:=15) (by omega) (by omega) _).trans<|(S9 hw lw (t-15) (by omega) _).trans<|(trn b 7 (by omega) (by omega) _).trans ?_
 refine(LW (b:=15) (by omega) (by omega) _).trans<|(S9 hw lw (t-15) (by omega) _).trans<|(trn b 18 (by omega) (by omega) _).trans ?_
 refine(AB (u32_xor (DJ b) (DJ b)) _).trans ?_
 refine(LW (b:=15) (by omega) (by omega) _).trans<|(S9 hw lw (t-15) (by omega) _).trans ?_
 refine(AB (MG 3 (by omega)) _).trans ?_
 exact AB (u32_xor (OJ (DJ b) (DJ b)) (Ym _ b)) _
theorem ACG (h16:16≤t) (K:V→Option (V×List V)):
 Nk (.ref 2 [] 204) (.int .i64 (t:Int)) h K=K (vw (sg1 (w.getD (t-2) 0))):=by
 have b:=bw.get (t-2)
 unfold Nk
 refine(LW (b:=2) (by omega) (by omega) _).trans<|(S9 hw lw (t-2) (by omega) _).trans<|(trn b 17 (by omega) (by omega) _).trans ?_
 refine(LW (b:=2) (by omega) (by omega) _).trans<|(S9 hw lw (t-2) (by omega) _).trans<|(trn b 19 (by omega) (by omega) _).trans ?_
 refine(AB (u32_xor (DJ b) (DJ b)) _).trans ?_
 refine(LW (b:=2) (by omega) (by omega) _).trans<|(S9 hw lw (t-2) (by omega) _).trans ?_
 refine(AB (MG 10 (by omega)) _).trans ?_
 exact AB (u32_xor (OJ (DJ b) (DJ b)) (Ym _ b)) _
theorem ACH (h16:16≤t) (x y:Nat) (K:List V→Option (V×List V)):
 Nl (.ref 2 [] 204) (.int .i64 (t:Int)) (vw x) (vw y) h K=K (h.set 2 (Pv (w.set t (ad (ad (ad (w.getD (t-16) 0) (w.getD (t-7) 0)) x) y)))):=by
 unfold Nl
 refine(LW (b:=16) (by omega) (by omega) _).trans<|(S9 hw lw (t-16) (by omega) _).trans ?_
 refine(LW (b:=7) (by omega) (by omega) _).trans<|(S9 hw lw (t-7) (by omega) _).trans ?_
 refine(AB (Eb _ _) _).trans ?_
 refine(AB (Eb _ _) _).trans ?_
 refine(AB (Eb _ _) _).trans ?_
 refine(AB (AH0 ht) _).trans ?_
 exact AB (AJt hw (by omega)) _
end
theorem AEe (n t:Nat) (w:List Nat):QZ (n+1) t w=QZ n (t+1) (w.set t (ad (ad (ad (w.getD (t-16) 0) (w.getD (t-7) 0)) (sg0 (w.getD (t-15) 0))) (sg1 (w.getD (t-2) 0)))):=rfl
theorem AEf (p:List UInt8) (n t:Nat) (w:List Nat):Uu p (n+1) t w=Uu p n (t+1) (w.set t (wordAt p t)):=rfl
theorem AEg (h:List Nat) (hh:h.length=8) (bh:B32 h):∀(n t:Nat) (w:List Nat),t+n=64→16≤t→B32 w→w.length=64→
 Ls (.ref 0 [] 184) (.ref 1 [] 184) (.ref 2 [] 204) (.int .i64 (t:Int)) [A8 h,A8 (List.replicate 8 0),Pv w]=
  some (A8 (Sz (Uw EG (QZ n t w) 64 0 h) 8 0 h),[]):=by
 intro n
 induction n with
 |zero=>
  intro t w ht h16 bw lw
  rw[Nz,SY,Iy (by omega),BP,Ui]
  have z:zero P 184=A8 (List.replicate 8 0):=by rw[Wj];rfl
  have l0:Ae [A8 h,A8 (List.replicate 8 0),Pv w] 184 (.ref 0 [] 184)=some (A8 h):=DI (FM rfl)
  rw[l0,z]
  refine(AB (EF (h:=[A8 h,A8 (List.replicate 8 0),Pv w]++[A8 (List.replicate 8 0)]) rfl (by simp[BQ,KZ,A8]) (by simp only[A8,V.under];exact EX _ _)) _).trans ?_
  exact AEc h w hh lw bw 64 0 h rfl bh hh
 |succ n ih=>
  intro t w ht h16 bw lw
  rw[Nz,SY,Iw (by omega),BV,ACF rfl lw bw (by omega) h16,ACG rfl lw bw (by omega) h16,ACH rfl lw bw (by omega) h16,Uh,AEe]
  refine(KA (b:=1) (by omega) _).trans ?_
  exact ih (t+1) _ (by omega) (by omega) (bw.set t (AB9 _ _)) (by simp[lw])
theorem AEh (h:List Nat) (hh:h.length=8) (bh:B32 h) (p:List UInt8) (hp:p.length=64) (f:Fl):∀(n t:Nat) (w:List Nat),t+n=16→B32 w→w.length=64→
 Lr (.lst 5 f (bytesOf p)) (.ref 0 [] 184) (.ref 1 [] 184) (.ref 2 [] 204) (.int .i64 (t:Int)) [A8 h,A8 (List.replicate 8 0),Pv w]=
  some (A8 (Sz (Uw EG (QZ 48 16 (Uu p n t w)) 64 0 h) 8 0 h),[]):=by
 intro n
 induction n with
 |zero=>
  intro t w ht bw lw
  rw[N7,SV,Iy (by omega),BP,Yc]
  exact AEg h hh bh 48 16 w rfl (by omega) bw lw
 |succ n ih=>
  intro t w ht bw lw
  rw[N7,SV,Iw (by omega),BV,YZ,Ya]
  refine(AEd (a:=4) (by omega) _).trans<|(AEd (a:=4) (by omega) _).trans<|(KA (b:=4) (by omega) _).trans ?_
  refine(AB (AJv (f:=f) (t:=5) (xs:=bytesOf p) Gf (a:=4*t) (b:=4*t+4) (by omega) (by simp[bytesOf];omega)) _).trans ?_
  rw[AEZ (by omega) (by omega) rfl lw,Yb,AEf]
  refine(KA (b:=1) (by omega) _).trans ?_
  exact ih (t+1) _ (by omega) (bw.set t (Zl p t)) (by simp[lw])
theorem AEi {h:List Nat} (hh:h.length=8) (bh:B32 h) {p:List UInt8} (hp:p.length=64) (f:Fl):
 Cl 136 [A8 h,.lst 5 f (bytesOf p)] []=some (A8 (Ux h p),[]):=by
 have tk:(BQ P 184 (A8 h)&&V.under (List.length ([]:List V)) (A8 h))=true:=by
  simp only[A8,V.under,EX,BQ,KZ];simp
 rw[AEP,YV,if_pos tk,YW,YX,Wj,AHz]
 have z32:B32 (List.replicate 64 0):=fun x hx=>by rw[List.eq_of_mem_replicate hx];decide
 exact AEh h hh bh p hp f 16 0 (List.replicate 64 0) rfl z32 rfl
end
section
open Go AM
section
variable {B:Type} {s e u:TypeId} {f:Fl} {xs:List V} {h:List V}
theorem Gh:∃g,V.weak (.lst e f xs)= .lst e g xs:=by cases f<;>exact⟨_,rfl⟩
theorem Zm (hu:P.underlying s=some (.slice u)) (K:V→Option B):(lenV P s (.lst e f xs)).bind K=K (.int .i64 (xs.length:Int)):=by
 simp[lenV,hu]
theorem Wn (hu:P.underlying s=some (.slice u)) (K:V→Option B):(lenV P s (V.weak (.lst e f xs))).bind K=K (.int .i64 (xs.length:Int)):=by
 obtain⟨g,hg⟩:=Gh (e:=e) (f:=f) (xs:=xs);rw[hg];exact Zm hu K
theorem Zn (hk:K P s= .slice e) {i:Nat} {v:V} (hv:xs[i]?=some v) (K:V→Option B):
 (Ag P s (.lst e f xs) (.int .i64 (i:Int))).bind K=K (.rop e v):=by
 have hi:=OE hv
 have:inside (i:Int) xs.length=true:=by simp[inside,hi]
 simp[Ag,hk,this,hv]
theorem AEj (hk:K P s= .slice e) {i:Nat} {v:V} (hv:xs[i]?=some v) (K:V→Option B):
 (Ag P s (V.weak (.lst e f xs)) (.int .i64 (i:Int))).bind K=K (.rop e v):=by
 obtain⟨g,hg⟩:=Gh (e:=e) (f:=f) (xs:=xs);rw[hg];exact Zn hk hv K
theorem ldR {v:V} (K:V→Option B):(Ae h e (.rop e v)).bind K=K v:=by rw[JR];rfl
theorem AEk {v:V} (K:V→Option B):(BI h e (.rop e v)).bind K=K v.weak:=by rw[BI,JR];rfl
theorem AEl (hk:K P s= .slice e) (hf:f= .own∨f= .nil) {y:V} {ys:List V} (hy:Af h y=some ys) (hc:AU ys=true) (ht:F8 P e ys=true) (hl:xs.length+ys.length≤2147483648) (hn:BN P depth e=false) (hne:f= .nil→ys.isEmpty=false:=by first|(intro h;cases h;done)|(intro _;rfl)):
 D5 P s h (.lst e f xs) y=some (.lst e .own (xs++ys)):=by
 rcases hf with rfl|rfl
 ·simp[D5,hk,hy,hc,ht,hl,C9,DY,hn]
 ·have:=hne rfl
  cases ys with
  |nil=>cases this
  |cons y0 ys0=>simp[D5,hk,hy,hc,ht,hl,C9,DY,hn]<;>exact decide_eq_true (by simpa using hl)
theorem AGY (hk:K P s= .slice e) {v:V} (ht:BQ P e v=true) (hc:v.clean=true) (hn:BN P depth e=false) (hz:∃z,zero P e=z):
 EO P s 1 [(0,v)]=some (.lst e .own [v]):=by
 simp[EO,hk,CS,ht,List.replicate,cp,hn,AU,hc,DY]
end
def bL (f:Fl) (l:List UInt8):V:= .lst 5 f (bytesOf l)
theorem Ai (l:List UInt8):(bytesOf l).length=l.length:=by simp[bytesOf]
theorem E5 (a b:List UInt8):bytesOf (a++b)=bytesOf a++bytesOf b:=by simp[bytesOf]
theorem bytesOf_take (n:Nat) (a:List UInt8):(bytesOf a).take n=bytesOf (a.take n):=by simp[bytesOf,List.map_take]
theorem bytesOf_drop (n:Nat) (a:List UInt8):(bytesOf a).drop n=bytesOf (a.drop n):=by simp[bytesOf,List.map_drop]
theorem Bf:∀l:List UInt8,AU (bytesOf l)=true
 |[]=>rfl
 |x::l=>by simp only[bytesOf,List.map_cons,AU];rw[show List.map _ l=bytesOf l from rfl,Bf l];rfl
theorem TA (x:Int):BQ P 5 (.int .u8 x)=true:=by simp[BQ,K_5,Bd,KY]
theorem E8 (l:List UInt8):F8 P 5 (bytesOf l)=true:=by
 simp[F8,bytesOf,TA]
theorem Qc {B:Type} {f:Fl} {l:List UInt8} (K':V→Option B):(lenV P 68 (V.weak (bL f l))).bind K'=K' (.int .i64 (l.length:Int)):=by
 rw[bL,Wn J9,Ai]
theorem AJw {B:Type} {f:Fl} {l:List UInt8} (K':V→Option B):(lenV P 68 (bL f l)).bind K'=K' (.int .i64 (l.length:Int)):=by
 rw[bL,Zm J9,Ai]
theorem AJx {f:Fl} {h:List V} {l m:List UInt8} {g:Fl} (hf:f= .own∨f= .nil) (hl:l.length+m.length≤2147483648) (hne:f= .nil→m.isEmpty=false:=by first|(intro h;cases h;done)|(intro _;rfl)):
 D5 P 68 h (bL f l) (bL g m)=some (bL .own (l++m)):=by
 rw[bL,AEl Gf hf (y:=bL g m) (ys:=bytesOf m) rfl (Bf m) (E8 m) (by simpa [Ai]using hl) Zj (fun h=>by have:=hne h;cases m<;>first|(cases this;done)|rfl),bL,E5]
theorem U0 (x:Nat) (hx:x<256):EO P 68 1 [(0,.int .u8 (x:Int))]=some (bL .own [UInt8.ofNat x]):=by
 rw[AGY Gf (TA _) rfl Zj ⟨_,rfl⟩,bL]
 simp[bytesOf,Nat.mod_eq_of_lt hx]
theorem app1 {B:Type} {f:Fl} {h:List V} {l:List UInt8} (hf:f= .own∨f= .nil) (hl:l.length+1≤2147483648) (x:Nat) (hx:x<256) (K':V→Option B):
 (EO P 68 1 [(0,.int .u8 (x:Int))]).bind (fun y=>(D5 P 68 h (bL f l) y).bind K')=K' (bL .own (l++[UInt8.ofNat x])):=by
 rw[U0 x hx]
 exact AB (AJx hf (by simpa using hl) (fun _=>rfl)) K'
end
section
open Go AM
def part (p:Fl×List UInt8):V:=bL p.1 p.2
def parts (L:List (Fl×List UInt8)):List V:=L.map part
def flat (L:List (Fl×List UInt8)):List UInt8:=(L.map (·.2)).flatten
theorem Ec:∀l:List UInt8,AP (bytesOf l)=bytesOf l
 |[]=>rfl
 |x::l=>by simp only[bytesOf,List.map_cons,AP];rw[show List.map _ l=bytesOf l from rfl,Ec l];rfl
theorem Qd {L:List (Fl×List UInt8)} {i:Nat} (hi:i<L.length):(parts L)[i]?=some (part L[i]):=by
 simp[parts,hi]
theorem H6 (p:Fl×List UInt8):∃g,(part p).weak=bL g p.2:=by
 obtain⟨f,l⟩:=p;exact Gh
theorem ACI {s e:TypeId} {id off len a:Nat} {p:List Nat} (k:K P s= .slice e) (h1:a≤len):
 LV P s (V.weak (.win id p off len e)) (some (.int .i64 (a:Int))) none none=some (.win id p (off+a) (len-a) e):=by
 have e2:(0:Int)≤(a:Int)∧(a:Int)≤(len:Int):=⟨by omega,by omega⟩
 simp[LV,V.weak,k,BU,e2,h1]
theorem Wp {e:TypeId} {s:TypeId} {off len:Nat} {xs ys:List V} {y:V} (k:K P s= .slice e) (hy:Af [.row e xs] y=some ys) (hc:AU ys=true) (ht:F8 P e ys=true) (hn:BN P depth e=false) (hl:ys.length≤len):
 cpy P s [.row e xs] (.win 0 [] off len e) y=some (.int .i64 (ys.length:Int),[.row e (xs.take off++ys++xs.drop (off+ys.length))]):=by
 have m:min ys.length len=ys.length:=by omega
 simp[cpy,ES,k,hy,hc,ht,rd,V.at,V.items,wr,V.upd,DY,hn,m]
theorem Iz (p:Fl×List UInt8) (L:List (Fl×List UInt8)):flat (p::L)=p.2++flat L:=rfl
theorem AEm (fs:Fl) (L:List (Fl×List UInt8)) (hL:L.length<2147483648) (f:Fl) (N:Nat) (hN:N<2147483648) (h0:0<N):∀(n i:Nat) (done:List UInt8),i+n=L.length→N=done.length+(flat (L.drop i)).length→
 Lp (.lst 5 fs []) (.win 0 [] 0 N 5) (.int .i64 (done.length:Int)) (.lst 68 f (parts L)) (.int .i64 (L.length:Int)) (.int .i64 (i:Int)) [.row 5 (bytesOf done++List.replicate (N-done.length) .undef)]=
  some (bL .own (done++flat (L.drop i)),[]):=by
 intro n
 induction n with
 |zero=>
  intro i done hi hn
  have hd:L.drop i=[]:=by simp;omega
  rw[hd]at hn⊢
  simp only[flat,List.map_nil,List.flatten_nil,List.length_nil,Nat.add_zero,List.append_nil]at hn⊢
  subst hn
  rw[Nc,Nb,Iy (by omega),BP,Ug]
  have c:Af [V.row 5 (bytesOf done)] (.win 0 [] 0 done.length 5)=some (bytesOf done):=by
   simp[Af,rd,V.at,V.items,Ai]
   rw[List.take_of_length_le (by simp[Ai])]
  simp[Po,c,Bf,Ec,bL,Nat.ble,Nat.blt,Nat.ble_eq]
  exact List.ne_nil_of_length_pos h0
 |succ n ih=>
  intro i done hi hn
  have hlt:i<L.length:=by omega
  rw[Nc,Nb,Iw (by omega),BV,Uc]
  refine(Zn OA (Qd hlt) _).trans<|(AEk _).trans ?_
  obtain⟨g,hg⟩:=H6 L[i]
  rw[hg]
  rw[Ud]
  refine(AB (ACI Gf (by omega)) _).trans ?_
  refine(AB (Wp (ys:=[]) Gf (by cases fs<;>rfl) rfl rfl Zj (Nat.zero_le _)) _).trans ?_
  refine(KA (b:=0) (by simp;omega) _).trans ?_
  simp only[List.length_nil,Nat.add_zero,Nat.zero_add,List.append_nil,List.take_append_drop]
  rw[Ue]
  have hd:flat (L.drop i)=L[i].2++flat (L.drop (i+1)):=by rw[List.drop_eq_getElem_cons hlt,Iz]
  rw[hd]at hn⊢
  rw[List.length_append]at hn
  refine(AB (ACI Gf (by omega)) _).trans ?_
  refine(AB (Wp (ys:=bytesOf L[i].2) Gf rfl (Bf _) (E8 _) Zj (by rw[Ai];omega)) _).trans ?_
  rw[Ai]
  refine(KA (by omega) _).trans ?_
  rw[Uf]
  refine(KA (b:=1) (by omega) _).trans ?_
  have:=ih (i+1) (done++L[i].2) (by omega) (by simp;omega)
  rw[List.append_assoc,List.length_append]at this
  rw[←this]
  congr 1
  simp[E5,Ai,List.take_append,List.drop_append,List.take_of_length_le,List.drop_eq_nil_of_le]
  omega
theorem AMU {R:Type} {n:Nat} {h:List V} (hn:n≤2147483648) (k:V→List V→Option R):mnz P 0 155 [.int .i64 (n:Int)] h k=k (.win h.length [] 0 n 5) (h++[.row 5 (List.replicate n .undef)]):=by
 have:(0:Nat)=0∧(0:Int)≤(n:Int)∧(n:Int)≤(C9:Int):=⟨rfl,by omega,by simp only[C9];omega⟩
 unfold mnz
 refine(if_pos this).trans ?_
 have key:∀e:TypeId,e=5→k (.win h.length [] 0 (n:Int).toNat e) (h++[.row e (List.replicate (n:Int).toNat .undef)])=k (.win h.length [] 0 n 5) (h++[.row 5 (List.replicate n .undef)]):=by rintro _ rfl;rfl
 exact key _ (by kernel_rfl)
theorem AEn {s e:TypeId} {id off len b:Nat} {p:List Nat} (k:K P s= .slice e) (h1:b≤len):
 LV P s (.win id p off len e) none (some (.int .i64 (b:Int))) (some (.int .i64 (b:Int)))=some (.win id p off b e):=by
 have e2:(0:Int)≤(b:Int)∧(b:Int)≤(len:Int):=⟨by omega,by omega⟩
 simp[LV,V.weak,k,BU,e2,h1]
theorem AEo (fs:Fl) (L:List (Fl×List UInt8)) (hL:L.length<2147483648) (hL0:0<L.length) (f:Fl) (hN:(flat L).length<2147483648) (h0:0<(flat L).length):∀(n i acc:Nat),i+n=L.length→acc+(flat (L.drop i)).length=(flat L).length→
 Lm (.lst 68 f (parts L)) (.lst 5 fs []) (.int .i64 (acc:Int)) (V.weak (.lst 68 f (parts L))) (.int .i64 (L.length:Int)) (.int .i64 (i:Int)) []=
  some (bL .own (flat L),[]):=by
 intro n
 induction n with
 |zero=>
  intro i acc hi hn
  have hd:L.drop i=[]:=by simp;omega
  rw[hd]at hn
  have e0:(flat ([]:List (Fl×List UInt8))).length=0:=rfl
  rw[Nh,Na,Iy (by omega),BP,UZ]
  have hacc:acc=(flat L).length:=by omega
  subst hacc
  rw[AMU (by omega)]
  refine(AB (AEn Gf (Nat.le_refl _)) _).trans ?_
  obtain⟨p,L',rfl⟩:=List.exists_cons_of_length_pos hL0
  rw[Ua]
  refine(AEj (i:=0) (v:=part p) OA rfl _).trans<|(AEk _).trans ?_
  obtain⟨g,hg⟩:=H6 p
  rw[hg]
  refine(AB (Wp (ys:=bytesOf p.2) Gf rfl (Bf _) (E8 _) Zj (by rw[Ai,Iz,List.length_append];omega)) _).trans ?_
  rw[Ub]
  have sl:LV P 182 (.lst 68 f (parts (p::L'))) (some (.int .i64 1)) none none=some (.lst 68 f.cut (parts L')):=by
   have e1:(1:Int)≤((parts L').length:Int)+1:=by omega
   simp[LV,OA,BU,parts,e1]
   constructor
   ·omega
   ·rw[List.take_of_length_le (by simp)]
  refine(AB sl _).trans ?_
  refine(Zm L8 _).trans ?_
  have:=AEm fs L' (by simp at hL;omega) f.cut (flat (p::L')).length hN h0 L'.length 0 p.2 (by omega) (by rw[Iz,List.length_append];rfl)
  simp only[List.drop_zero]at this
  rw[←Iz]at this
  refine Eq.trans ?_ this
  simp only[parts,List.length_map,Ai,List.length_nil,List.nil_append,List.take_zero,Nat.zero_add,List.drop_replicate]
  rfl
 |succ n ih=>
  intro i acc hi hn
  have hlt:i<L.length:=by omega
  have hd:flat (L.drop i)=L[i].2++flat (L.drop (i+1)):=by rw[List.drop_eq_getElem_cons hlt,Iz]
  rw[hd,List.length_append]at hn
  rw[Nh,Na,Iw (by omega),BV,UU]
  refine(AEj OA (Qd hlt) _).trans<|(AEk _).trans ?_
  obtain⟨g,hg⟩:=H6 L[i]
  rw[hg,UW]
  refine Qc _ |>.trans ?_
  refine(AB (OB _ _ _) _).trans ?_
  rw[wrap_i64 (by omega) (by omega)]
  refine(AB (b_gtr _ _ _) _).trans ?_
  rw[decide_eq_false (by omega),BP,UX]
  refine AJw _ |>.trans ?_
  refine(KA (by omega) _).trans ?_
  rw[UY]
  refine(KA (b:=1) (by omega) _).trans ?_
  exact ih (i+1) (acc+L[i].2.length) (by omega) (by omega)
theorem AEp (fs:Fl) (L:List (Fl×List UInt8)) (hL:L.length<2147483648) (f:Fl) (hN:(flat L).length<2147483648) (h0:0<(flat L).length):
 Cl 135 [.lst 68 f (parts L),.lst 5 fs []] []=some (bL .own (flat L),[]):=by
 have hL0:0<L.length:=by
  cases L with
  |nil=>cases h0
  |cons=>simp
 have lp:(parts L).length=L.length:=by simp[parts]
 rw[AEO,YP,YQ]
 refine(Wn L8 _).trans ?_
 rw[lp]
 refine(AB (b_eql _ _ _) _).trans ?_
 rw[decide_eq_false (by omega),BP,YR]
 refine(Wn L8 _).trans ?_
 rw[lp]
 refine(AB (b_eql _ _ _) _).trans ?_
 by_cases h1:L.length=1
 ·rw[decide_eq_true (by omega),BV,YS]
  match L,h1 with
  |[p],_=>
   refine(Zn (i:=0) (v:=part p) OA rfl _).trans<|(AEk _).trans ?_
   obtain⟨g,hg⟩:=H6 p
   have e:flat [p]=p.2:=by simp[flat]
   rw[e]at hN h0⊢
   rw[hg]
   have a:=AJx (f:= .nil) (h:=[]) (l:=[]) (m:=p.2) (g:=g) (Or.inr rfl) (by simp;omega) (fun _=>by cases hp:p.2 with|nil=>rw[hp]at h0;simp at h0|cons=>rfl)
   refine(AB a _).trans ?_
   refine(AB (show Dh [] (bL .own ([]++p.2))=some (.win 0 [] 0 p.2.length 5,[.row 5 (bytesOf p.2)])by simp[Dh,bL,Ai]) _).trans ?_
   have c:Af [V.row 5 (bytesOf p.2)] (.win 0 [] 0 p.2.length 5)=some (bytesOf p.2):=by
    simp[Af,rd,V.at,V.items,Ai]
    rw[List.take_of_length_le (by simp[Ai])]
   simp[Po,c,Bf,Ec,bL,Nat.ble,Nat.blt,Nat.ble_eq]
   exact List.ne_nil_of_length_pos h0
 ·rw[decide_eq_false (by omega),BP,YT,YU]
  refine(Wn J9 _).trans ?_
  refine(AB (b_gtr _ _ _) _).trans ?_
  simp only[jn,List.length_nil]
  rw[decide_eq_false (by omega),BP,UR]
  refine(Wn L8 _).trans ?_
  rw[lp]
  exact AEo fs L hL hL0 f hN h0 L.length 0 0 (by omega) (by simp)
end
section
open Go AM
def Wq (n:Nat):Nat:=(120-n%64)%64
def lb (n i:Nat):UInt8:=UInt8.ofNat (n/2^(56-8*i)%256)
def OL (n:Nat):Nat→Nat→List UInt8
 |0,_=>[]
 |k+1,i=>lb n i::OL n k (i+1)
def ACJ (l:List UInt8):List UInt8:=(l++[128])++List.replicate (Wq (l.length+1)) 0++OL (8*l.length) 8 0
def blocks:Nat→List Nat→List UInt8→List Nat
 |0,h,_=>h
 |n+1,h,p=>blocks n (Ux h (p.take 64)) (p.drop 64)
def dg (st:List Nat) (i:Nat):UInt8:=UInt8.ofNat (st.getD (i/4) 0/2^(24-8*(i%4))%256)
def Ko (st:List Nat):Nat→Nat→List UInt8→List UInt8
 |0,_,w=>w
 |n+1,i,w=>Ko st n (i+1) (w.set i (dg st i))
def Gi:List Nat:=(match QE with|V.agg _ l=>l|_=>[]).map fun v=>match v with|V.int _ n=>n.toNat|_=>0
def AJy (l:List UInt8):List Nat:=blocks ((ACJ l).length/64) Gi (ACJ l)
def Yo (l:List UInt8):List UInt8:=Ko (AJy l) 32 0 (List.replicate 32 0)
def BB (l:List UInt8):V:= .agg 54 (bytesOf l)
theorem AEq:QE=A8 Gi:=by kernel_rfl
theorem AJz:Gi.length=8:=by kernel_rfl
theorem AJ0:B32 Gi:=by
 have h:Gi.all (fun x=>decide (x<4294967296))=true:=by kernel_rfl
 intro x hx
 have:=List.all_eq_true.1 h x hx
 exact of_decide_eq_true this
theorem U1 {h:List Nat} (p:List UInt8) (bh:B32 h) (hh:h.length=8):B32 (Ux h p)∧(Ux h p).length=8:=Yn _ _ _ bh hh
theorem Qe (st:List Nat):∀(n i:Nat) (w:List UInt8),(Ko st n i w).length=w.length
 |0,_,_=>rfl
 |n+1,i,w=>by rw[Ko,Qe st n];simp
theorem MI (l:List UInt8):(Yo l).length=32:=by rw[Yo,Qe];rfl
theorem Zo (l:List UInt8) (i:Nat) (x:UInt8):(bytesOf l).set i (.int .u8 (x.toNat:Int))=bytesOf (l.set i x):=by
 simp[bytesOf,List.map_set]
theorem AJ1 (x:Nat) (hx:x<256):(V.int .u8 (x:Int))= .int .u8 ((UInt8.ofNat x).toNat:Int):=by
 simp[Nat.mod_eq_of_lt hx]
theorem Kq (n:Nat):∀l:List UInt8,Ad n (bytesOf l)=true
 |[]=>rfl
 |x::l=>by simp only[bytesOf,List.map_cons,Ad];rw[show List.map _ l=bytesOf l from rfl,Kq n l];rfl
theorem OM (n:Nat):∀l:List UInt8,DC n (bytesOf l)=true
 |[]=>rfl
 |x::l=>by simp only[bytesOf,List.map_cons,DC];rw[show List.map _ l=bytesOf l from rfl,OM n l];rfl
theorem Kr (h:List V):∀l:List UInt8,CQ h (bytesOf l)=bytesOf l
 |[]=>rfl
 |x::l=>by simp only[bytesOf,List.map_cons,CQ];rw[show List.map _ l=bytesOf l from rfl,Kr h l];rfl
theorem Ku (h:List V):∀l:List UInt8,AL h (bytesOf l)=bytesOf l
 |[]=>rfl
 |x::l=>by simp only[bytesOf,List.map_cons,AL];rw[show List.map _ l=bytesOf l from rfl,Ku h l];rfl
theorem Qg (h:List V):∀l:List Nat,AL h (JU l)=JU l
 |[]=>rfl
 |x::l=>by simp only[JU,List.map_cons,AL];rw[show List.map vw l=JU l from rfl,Qg h l];rfl
theorem ACK (h:List V) (l:List Nat):V.reify h (A8 l)=A8 l:=by simp only[A8,V.reify,Qg]
theorem U2 (h:List V) (f:Fl) (l:List UInt8):∃g,V.reify h (bL f l)=bL g l:=by
 cases f<;>simp only[bL,V.reify,Ku]<;>exact⟨_,rfl⟩
theorem TB (n:Nat) (h:List V) (l:List UInt8):AY n h (BB l)=some (BB l,h.take n):=by
 simp only[AY,BB,V.unmut,Kr,V.norm,Ec,V.clean,Bf,V.over,OM,Bool.and_self,if_true]
theorem AEr:zero P 55=BB (List.replicate 32 0):=by rw[AJp];rfl
theorem Yp (l:List UInt8):BQ P 55 (BB l)=true:=by simp[BQ,AES,BB]
theorem Yq (n:Nat) (l:List UInt8):(BB l).under n=true:=by simp only[BB,V.under];exact Kq _ _
theorem AJ2 (l:List Nat):BQ P 184 (A8 l)=true:=by simp[BQ,KZ,A8]
theorem AJ3 (n:Nat) (l:List Nat):(A8 l).under n=true:=by simp only[A8,V.under];exact EX _ _
theorem AMV {id i:Nat} (hi:i<32):Ag P 55 (.ref id [] 55) (.int .i64 (i:Int))=some (.ref id [i] 5):=by
 have:inside (i:Int) 32=true:=by simp[inside];omega
 simp[Ag,AES,this]
theorem AMW {h:List V} {id i x:Nat} {l:List UInt8} (hh:h[id]?=some (BB l)) (hi:i<l.length) (hx:x<256):Ht P h 5 (.ref id [i] 5) (.int .u8 (x:Int))=some (h.set id (BB (l.set i (UInt8.ofNat x)))):=by
 rw[L9 hh (QY hi) (TA _) rfl,AJ1 x hx,Zo];rfl
theorem AH5 {h:List V} {st:List Nat} {w:List UInt8} {i:Nat} (hs:h[1]?=some (A8 st)) (hst:st.length=8) (hw:h[2]?=some (BB w)) (lw:w.length=32) (hi:i<32) (K:List V→Option (V×List V)):
 NU (.ref 1 [] 184) (.ref 2 [] 55) (.int .i64 (i:Int)) h K=K (h.set 2 (BB (w.set i (dg st i)))):=by
 unfold NU
 refine(AB (Yk _ _ _ (by omega)) _).trans ?_
 rw[show(i:Int).tdiv 4=((i/4:Nat):Int)by rfl,wrap_i64 (by omega) (by omega)]
 refine(at8 hs hst (i/4) (by omega) _).trans ?_
 refine(AB (QX _ _ _ (by omega)) _).trans ?_
 rw[show(i:Int).tmod 4=((i%4:Nat):Int)by rfl]
 refine(AEd (a:=8) (by omega) _).trans<|(LW (a:=24) (by omega) (by omega) _).trans ?_
 refine(AB (Cf Sm ..) _).trans ?_
 rw[wrap_u64 (by omega) (by omega)]
 refine(AB (MG _ (by omega)) _).trans ?_
 refine(AB (Cf KY ..) _).trans ?_
 rw[Gg]
 refine(AB (AMV hi) _).trans ?_
 exact AB (AMW hw (by omega) (Nat.mod_lt _ (by decide))) _
theorem AJ4 {st:List Nat} (hst:st.length=8) (z:List UInt8):∀(n i:Nat) (w:List UInt8),i+n=32→w.length=32→
 Lj (.ref 0 [] 55) (.ref 1 [] 184) (.ref 2 [] 55) (.int .i64 (i:Int)) [BB z,A8 st,BB w]=some (BB (Ko st n i w),[]):=by
 intro n
 induction n with
 |zero=>
  intro i w hi hw
  rw[NV,NT,Iy (by omega),BP,UQ]
  refine(AB (DI (v:=BB w) (FM rfl)) _).trans ?_
  refine(AB (EF (w:=BB z) rfl (Yp _) (Yq _ _)) _).trans ?_
  refine(AB (DI (v:=BB w) (FM rfl)) _).trans ?_
  exact TB _ _ _
 |succ n ih=>
  intro i w hi hw
  rw[NV,NT,Iw (by omega),BV,UN,AH5 rfl hst rfl hw (by omega),UO]
  refine(KA (b:=1) (by omega) _).trans ?_
  exact ih (i+1) _ (by omega) (by simp[hw])
theorem AJ5:∀(n:Nat) (f:Fl) (p:List UInt8) (st:List Nat),p.length=64*n→p.length<2147483648→B32 st→st.length=8→
 Lh (.ref 0 [] 55) (bL f p) (.ref 1 [] 184) [BB (List.replicate 32 0),A8 st]=some (BB (Ko (blocks n st p) 32 0 (List.replicate 32 0)),[]):=by
 intro n
 induction n with
 |zero=>
  intro f p st hp hlt bs hst
  rw[NW,NS]
  refine Qc _ |>.trans ?_
  refine(AB (b_gtr _ _ _) _).trans ?_
  rw[decide_eq_false (by omega),BP,UL,UM,AEr]
  exact AJ4 hst _ 32 0 _ rfl rfl
 |succ n ih=>
  intro f p st hp hlt bs hst
  rw[NW,NS]
  refine Qc _ |>.trans ?_
  refine(AB (b_gtr _ _ _) _).trans ?_
  rw[decide_eq_true (by omega),BV,UJ]
  refine(AB (DI (v:=A8 st) (FM rfl)) _).trans ?_
  have sl:LV P 68 (V.weak (bL f p)) none (some (.int .i64 64)) none=some (bL f.cut (p.take 64)):=by
   have:=AJv (f:=f) (t:=5) (xs:=bytesOf p) Gf (a:=0) (b:=64) (by omega) (by rw[Ai];omega)
   rw[List.drop_zero,bytesOf_take]at this
   rw[bL,bL,←this]
   obtain⟨g,hg⟩:=Gh (e:=5) (f:=f) (xs:=bytesOf p)
   rw[hg]
   have e1:(64:Int)≤p.length:=by omega
   simp[LV,Gf,BU,Ai,e1]
  refine(AB sl _).trans ?_
  obtain⟨g,hg⟩:=U2 [BB (List.replicate 32 0),A8 st] f.cut (p.take 64)
  have e:AL [BB (List.replicate 32 0),A8 st] [A8 st,bL f.cut (p.take 64)]=[A8 st,bL g (p.take 64)]:=by
   simp only[AL,ACK,hg]
  rw[e]
  refine(AB (AEi hst bs (by rw[List.length_take];omega) g) _).trans ?_
  refine(AB (EF (w:=A8 st) rfl (AJ2 _) (AJ3 _ _)) _).trans ?_
  rw[UK]
  have sl2:LV P 68 (bL f p) (some (.int .i64 64)) none none=some (bL f.cut (p.drop 64)):=by
   have e1:(64:Int)≤p.length:=by omega
   simp[LV,bL,Gf,BU,Ai,e1,bytesOf_drop]
   rw[List.take_of_length_le (by rw[Ai];omega),bytesOf_drop]
  refine(AB sl2 _).trans ?_
  exact ih f.cut (p.drop 64) (Ux st (p.take 64)) (by rw[List.length_drop];omega) (by rw[List.length_drop];omega) (U1 _ bs hst).1 (U1 _ bs hst).2
theorem AJ6 (N:Nat) (hN:N<2147483648):∀(n i:Nat) (p:List UInt8),i+n=8→(p.length+n)%64=0→p.length<2147483000→
 Le (.ref 0 [] 55) (bL .own p) (.int .u64 ((8*N:Nat):Int)) (.int .i64 (i:Int)) [BB (List.replicate 32 0)]=
  some (BB (Ko (blocks ((p++OL (8*N) n i).length/64) Gi (p++OL (8*N) n i)) 32 0 (List.replicate 32 0)),[]):=by
 intro n
 induction n with
 |zero=>
  intro i p hi hp hl
  rw[NY,SS,Iy (by omega),BP,UI,AEq]
  refine(AB JR _).trans ?_
  refine(AB (EF (w:=zero P 184) rfl (AJ2 _) (AJ3 _ _)) _).trans ?_
  simp only[OL,List.append_nil]
  exact AJ5 (p.length/64) .own p Gi (by omega) (by omega) AJ0 AJz
 |succ n ih=>
  intro i p hi hp hl
  rw[NY,SS,Iw (by omega),BV,YL,YM]
  refine(AEd (a:=8) (by omega) _).trans<|(LW (a:=56) (by omega) (by omega) _).trans ?_
  refine(AB (Cf Sm ..) _).trans ?_
  rw[wrap_u64 (by omega) (by omega)]
  have hs:AO .shr (.int .u64 ((8*N:Nat):Int)) (.int .u64 ((56-8*i:Nat):Int))=some (.int .u64 ((8*N/2^(56-8*i):Nat):Int)):=by
   rw[Ut _ _ _ _ (by omega)]
   have:min (((56-8*i:Nat):Int)).toNat (IntKind.u64).bits=56-8*i:=by simp[IntKind.bits];omega
   rw[this,OI]
  refine(AB hs _).trans ?_
  refine(AB (Cf KY ..) _).trans ?_
  rw[Gg]
  refine(app1 (Or.inl rfl) (by omega) _ (Nat.mod_lt _ (by decide)) _).trans ?_
  rw[UH]
  refine(KA (b:=1) (by omega) _).trans ?_
  have:=ih (i+1) (p++[lb (8*N) i]) (by omega) (by simp;omega) (by simp;omega)
  rw[List.append_assoc,List.singleton_append]at this
  exact this
theorem AJ7 (N:Nat) (hN:N<2147483648):∀(n:Nat) (p:List UInt8),Wq p.length=n→p.length+n<2147482000→
 Ld (.ref 0 [] 55) (bL .own p) (.int .u64 ((8*N:Nat):Int)) [BB (List.replicate 32 0)]=
  some (BB (Ko (blocks ((p++List.replicate n 0++OL (8*N) 8 0).length/64) Gi (p++List.replicate n 0++OL (8*N) 8 0)) 32 0 (List.replicate 32 0)),[]):=by
 intro n
 induction n with
 |zero=>
  intro p hp hl
  rw[NZ,SQ]
  refine Qc _ |>.trans ?_
  refine(AB (QX _ _ _ (by omega)) _).trans ?_
  rw[show(p.length:Int).tmod 64=((p.length%64:Nat):Int)by rfl]
  refine(AB (b_neq _ _ _) _).trans ?_
  simp only[Wq]at hp
  rw[decide_eq_false (by omega),BP,YK,List.replicate_zero,List.append_nil]
  exact AJ6 N hN 8 0 p rfl (by omega) (by omega)
 |succ n ih=>
  intro p hp hl
  rw[NZ,SQ]
  refine Qc _ |>.trans ?_
  refine(AB (QX _ _ _ (by omega)) _).trans ?_
  rw[show(p.length:Int).tmod 64=((p.length%64:Nat):Int)by rfl]
  refine(AB (b_neq _ _ _) _).trans ?_
  simp only[Wq]at hp
  rw[decide_eq_true (by omega),BV,YJ]
  refine(app1 (Or.inl rfl) (by omega) 0 (by omega) _).trans ?_
  have:=ih (p++[0]) (by simp only[Wq,List.length_append,List.length_cons,List.length_nil];omega) (by simp;omega)
  rw[List.append_assoc p [0],List.singleton_append]at this
  exact this
theorem Ws (h:List V) (p:Fl×List UInt8):∃g,V.reify h (part p)=part (g,p.2):=U2 h p.1 p.2
theorem JV (h:List V):∀L:List (Fl×List UInt8),∃L',AL h (parts L)=parts L'∧flat L'=flat L∧L'.length=L.length
 |[]=>⟨[],rfl,rfl,rfl⟩
 |p::L=>by
  obtain⟨L',e1,e2,e3⟩:=JV h L
  obtain⟨g,hg⟩:=Ws h p
  refine⟨(g,p.2)::L',?_,?_,by simp[e3]⟩
  ·simp only[parts,List.map_cons,AL,hg];exact congrArg _ e1
  ·rw[Iz,Iz,e2]
theorem Kv (h:List V) (f:Fl) (L:List (Fl×List UInt8)):∃f' L',V.reify h (.lst 68 f (parts L))= .lst 68 f' (parts L')∧flat L'=flat L∧L'.length=L.length:=by
 obtain⟨L',e1,e2,e3⟩:=JV h L
 cases f
 case lent=>exact⟨.lent,L',by simp only[V.reify,e1],e2,e3⟩
 all_goals exact⟨.sh,L,rfl,rfl,rfl⟩
theorem Yr (L:List (Fl×List UInt8)) (hL:L.length<2147483648) (f:Fl) (hN:(flat L).length<2147480000) (h0:0<(flat L).length):
 Cl 117 [.lst 68 f (parts L)] []=some (BB (Yo (flat L)),[]):=by
 obtain⟨f',L',e1,e2,e3⟩:=Kv [BB (List.replicate 32 0)] f L
 have er:AL [BB (List.replicate 32 0)] [.lst 68 f (parts L),.lst 5 .nil []]=[.lst 68 f' (parts L'),.lst 5 .sh []]:=by
  simp only[AL,e1];rfl
 rw[AEF,YF,YG,AEr]
 simp only[List.nil_append]
 rw[er]
 refine(AB (AEp .sh L' (by omega) f' (by rw[e2];omega) (by rw[e2];exact h0)) _).trans ?_
 rw[e2,YH]
 refine Qc _ |>.trans ?_
 refine(AB (Cf N9 ..) _).trans ?_
 rw[wrap_u64 (by omega) (by omega)]
 refine(AB (Us _ _ _) _).trans ?_
 rw[wrap_u64 (by omega) (by omega),show((flat L).length:Int)*8=((8*(flat L).length:Nat):Int)by omega,YI]
 refine(app1 (Or.inl rfl) (by omega) 128 (by omega) _).trans ?_
 have z:Wq ((flat L).length+1)<64:=Nat.mod_lt _ (by decide)
 exact AJ7 (flat L).length (by omega) (Wq ((flat L).length+1)) (flat L++[128]) (by simp) (by simp;omega)
end
section
open Go AM
end
section
open Go AM
def uw (n:Nat):V:= .int .u64 (n:Int)
def uws (l:List Nat):List V:=l.map uw
theorem AJ8 {B:Type} {a b:Nat} (h:a+b<18446744073709551616) (K:V→Option B):(AO .add (.int .u64 (a:Int)) (.int .u64 (b:Int))).bind K=K (.int .u64 ((a+b:Nat):Int)):=by
 rw[Dp,show(a:Int)+(b:Int)=((a+b:Nat):Int)by omega,wrap_u64 (by omega) (by omega)];rfl
theorem AJ9 {B:Type} {a b:Nat} (hb:0<b) (h:a<18446744073709551616) (K:V→Option B):(AO .quo (.int .u64 (a:Int)) (.int .u64 (b:Int))).bind K=K (.int .u64 ((a/b:Nat):Int)):=by
 have:a/b≤a:=Nat.div_le_self _ _
 rw[Yk _ _ _ (by omega),show(a:Int).tdiv b=((a/b:Nat):Int)by rfl]
 generalize a/b=c at*
 rw[wrap_u64 (by omega) (by omega)];rfl
theorem AKA {B:Type} {a b:Nat} (hb:0<b) (K:V→Option B):(AO .rem (.int .u64 (a:Int)) (.int .u64 (b:Int))).bind K=K (.int .u64 ((a%b:Nat):Int)):=by
 rw[QX _ _ _ (by omega),show(a:Int).tmod b=((a%b:Nat):Int)by rfl];rfl
theorem AMX {B:Type} {k:IntKind} {a b:Int} (h:a=b) (K:V→Option B):(AO .eql (.int k a) (.int k b)).bind K=K (.bool true):=by
 rw[b_eql,Option.bind_some,decide_eq_true h]
theorem AMY {B:Type} {k:IntKind} {a b:Int} (h:¬a=b) (K:V→Option B):(AO .eql (.int k a) (.int k b)).bind K=K (.bool false):=by
 rw[b_eql,Option.bind_some,decide_eq_false h]
theorem AMZ {B:Type} {k:IntKind} {a b:Int} (h:a≠b) (K:V→Option B):(AO .neq (.int k a) (.int k b)).bind K=K (.bool true):=by
 rw[b_neq,Option.bind_some,decide_eq_true h]
theorem AMa {B:Type} {k:IntKind} {a b:Int} (h:¬a≠b) (K:V→Option B):(AO .neq (.int k a) (.int k b)).bind K=K (.bool false):=by
 rw[b_neq,Option.bind_some,decide_eq_false h]
theorem AKB {B:Type} {k:IntKind} {a b:Int} (h:b≤a) (K:V→Option B):(AO .geq (.int k a) (.int k b)).bind K=K (.bool true):=by
 rw[b_geq,Option.bind_some,decide_eq_true h]
theorem AKC {B:Type} {k:IntKind} {a b:Int} (h:¬b≤a) (K:V→Option B):(AO .geq (.int k a) (.int k b)).bind K=K (.bool false):=by
 rw[b_geq,Option.bind_some,decide_eq_false h]
end
section
open Go AM
def box (st:List Nat):List V:=[.row 93 (uws st)]
end
section
open Go AM
end
section
open Go AM
theorem I4 (l:List UInt8):ED (bytesOf l)=some l:=by
 induction l with
 |nil=>rfl
 |cons x l ih=>
  have:bytesOf (x::l)= .int .u8 (x.toNat:Int)::bytesOf l:=rfl
  rw[this]
  simp only[ED,AM.byteOf,ih]
  simp
theorem cv8 {B:Type} {h:List V} {x:Nat} (K:V→Option B):(conv P h 93 5 (.int .u64 (x:Int))).bind K=K (.int .u8 ((x%256:Nat):Int)):=by
 refine(AB (Cf KY ..) _).trans ?_
 rw[Gg]
theorem AGZ {B:Type} {h:List V} {s:List UInt8} (hs:s.length≤2147483648) (K:V→Option B):(conv P h 9 68 (.str s)).bind K=K (bL .own s):=
 AB (by simp[conv,J9,KY,C9,hs,bL]) K
end
section
open Go AM
end
section
open Go AM
def Ia:Nat→Nat→List UInt8
 |0,_=>[]
 |f+1,n=>if n<128 then[UInt8.ofNat n]else UInt8.ofNat (n%128+128)::Ia f (n/128)
def Aa (n:Nat):List UInt8:=Ia 10 n
theorem Ac:∀f n,(Ia f n).length≤f
 |0,_=>by simp[Ia]
 |f+1,n=>by
  rw[Ia];split
  ·simp
  ·have:=Ac f (n/128);simp;omega
def Ar (f:Fl) (l:List UInt8):V:= .agg 124 [bL f l]
def BK (id:Nat):V:= .ref id [] 125
abbrev OK (f:Fl):Prop:=f= .own∨f= .nil
theorem AMb (a:Nat) (ha:a<256):AO .or (.int .u8 (a:Int)) (.int .u8 128)=some (.int .u8 ((a%128+128:Nat):Int)):=by
 have h:∀x:Fin 256,x.val|||128=x.val%128+128:=by decide
 have e:=h ⟨a,ha⟩
 rw[show(128:Int)=((128:Nat):Int)from rfl,AJq,Bj,Bj,show(BitVec.ofNat (IntKind.u8).bits a|||BitVec.ofNat (IntKind.u8).bits 128).toNat=a|||128 from AGV (w:=8) (by omega) (by omega),e,wrap_u8 (by omega) (by omega)]
theorem OO {B:Type} {id:Nat} (K:V→Option B):(Dj (BK id)).bind K=K (BK id):=rfl
theorem Wu {B:Type} {id:Nat} (K:V→Option B):(BA P 125 0 (BK id)).bind K=K (.ref id [0] 68):=
 AB (OC (P:=P) (t:=125) (f:=0) AB2 rfl (by rw[AHw];decide) id []) K
def wk:Fl→Fl
 | .own=> .sh
 |f=>f
theorem Yt (f:Fl) (l:List UInt8):(bL f l).weak=bL (wk f) l:=by cases f<;>rfl
theorem MJ {B:Type} {h:List V} {id:Nat} {f:Fl} {l:List UInt8} (hh:h[id]?=some (Ar f l)) (K:V×List V→Option B):
 (BR h 68 (.ref id [0] 68)).bind K=K (bL f l,h.set id (Ar (wk f) l)):=by
 refine AB ?_ K
 have r:rd h id [0]=some (bL f l):=OD hh rfl
 simp[BR,r,wr,hh,Ar,V.upd,Yt]
theorem tyB (f:Fl) (l:List UInt8):BQ P 68 (bL f l)=true:=by simp[BQ,Gf,bL]
theorem unB (n:Nat) {f:Fl} (hf:f≠ .lent) (l:List UInt8):(bL f l).under n=true:=by cases f<;>first|rfl|exact absurd rfl hf
theorem Wv {B:Type} {h:List V} {id:Nat} {f:Fl} {l m:List UInt8} (hh:h[id]?=some (Ar f l)) (K:List V→Option B):
 (Ht P h 68 (.ref id [0] 68) (bL .own m)).bind K=K (h.set id (Ar .own m)):=by
 refine AB ?_ K
 exact L9 hh rfl (tyB _ _) (unB _ (by intro h;cases h) _)
theorem FU (h:List V):Cl 45 [] h=some (BK h.length,h++[Ar .nil []]):=by
 rw[AHO,ABF,ABG]
 have b:bld P 125 []=some (Ar .nil []):=by simp[bld,AB2,AHx,CS,Ar,bL,bytesOf]
 refine(AB b _).trans ?_
 have w:(Ar .nil []).weak=Ar .nil []:=rfl
 have c:(BQ P 125 (Ar .nil [])&&V.under h.length (Ar .nil []))=true:=by simp[BQ,AB2,Ar,V.under,Ad,bL]
 rw[w,if_pos c];rfl
theorem AH6 {n:Nat} {h:List V}:(if(List.all [] V.okE)=true then AY n h (V.tup [])else none)=some (.tup [],h.take n):=rfl
theorem FV {h:List V} {id:Nat} {a b:V}:(h.set id a).set id b=h.set id b:=by simp
theorem AH7 {id:Nat} (h0:List V) (hid:id<h0.length):∀(k n:Nat) (f:Fl) (l:List UInt8) (h:List V),h=h0.set id (Ar f l)→OK f→n<128^k→n<18446744073709551616→0<k→l.length+k≤2147483648→
 SE (BK id) (.int .u64 (n:Int)) h0.length h=some (.tup [],h0.set id (Ar .own (l++Ia k n))):=by
 intro k
 induction k with
 |zero=>intro n f l h _ _ _ _ h0 _;omega
 |succ k ih=>
  intro n f l h eh hf hn h64 _ hl
  have hh:h[id]?=some (Ar f l):=by rw[eh,List.getElem?_set];simp[hid]
  have hw:(h.set id (Ar (wk f) l))[id]?=some (Ar (wk f) l):=JS _ hh
  rw[Zi,ABH]
  by_cases hb:n<128
  ·refine(AKC (by omega) _).trans ?_
   rw[BP,ABL]
   refine(OO _).trans<|(Wu _).trans<|(MJ hh _).trans ?_
   refine(cv8 _).trans<|(app1 hf (by omega) _ (Nat.mod_lt _ (by decide)) _).trans<|(OO _).trans<|(Wu _).trans<|(Wv hw _).trans ?_
   rw[AH6,FV,Nat.mod_eq_of_lt (by omega),Ia,if_pos hb,eh,FV,List.take_of_length_le (by simp)]
  ·refine(AKB (by omega) _).trans ?_
   rw[BV,ABJ]
   refine(OO _).trans<|(Wu _).trans<|(MJ hh _).trans ?_
   refine(cv8 _).trans<|(AB (AMb _ (Nat.mod_lt _ (by decide))) _).trans<|(app1 hf (by omega) _ (by omega) _).trans<|(OO _).trans<|(Wu _).trans<|(Wv hw _).trans ?_
   rw[ABK]
   have hs:AO .shr (.int .u64 (n:Int)) (.int .u64 7)=some (.int .u64 ((n/128:Nat):Int)):=by
    rw[Ut _ _ _ _ (by omega)]
    have:min ((7:Int)).toNat (IntKind.u64).bits=7:=by decide
    rw[this];exact congrArg _ (congrArg _ (OI n 7))
   refine(AB hs _).trans ?_
   rw[FV,show n%256%128=n%128 by omega,Ia,if_neg hb]
   have k0:0<k:=by
    rcases Nat.eq_zero_or_pos k with h|h
    ·subst h;simp at hn;omega
    ·exact h
   have:=ih (n/128) .own (l++[UInt8.ofNat (n%128+128)]) (h.set id (Ar .own (l++[UInt8.ofNat (n%128+128)]))) (by rw[eh,FV]) (Or.inl rfl) (by rw[Nat.pow_succ]at hn;omega) (by omega) k0 (by simp;omega)
   rw[List.append_assoc,List.singleton_append]at this
   exact this
theorem Cm {h:List V} {id n:Nat} {f:Fl} {l:List UInt8} (hh:h[id]?=some (Ar f l)) (hf:OK f) (hn:n<18446744073709551616) (hl:l.length+10≤2147483648):
 Cl 46 [BK id,.int .u64 (n:Int)] h=some (.tup [],h.set id (Ar .own (l++Aa n))):=by
 rw[AHP]
 exact AH7 h (OE hh) 10 n f l h (AEV hh).symm hf (Nat.lt_of_lt_of_le hn (by decide)) hn (by omega) hl
theorem AGa (id:Nat) (x:Int) (k:IntKind):AP [BK id,.int k x]=[BK id,.int k x]:=rfl
theorem I5 {h:List V} {id:Nat} {f:Fl} {l s:List UInt8} (hh:h[id]?=some (Ar f l)) (hf:OK f) (hl:l.length+10+s.length≤2147483648):
 Cl 48 [BK id,.str s] h=some (.tup [],h.set id (Ar .own (l++Aa s.length++s))):=by
 have nl:=Ac 10 s.length
 rw[AHR,ABM]
 refine(AB (show lenV P 9 (.str s)=some (.int .i64 (s.length:Int))by simp[lenV,QW]) _).trans ?_
 refine(AB (Cf N9 ..) _).trans ?_
 rw[wrap_u64 (by omega) (by omega),AGa]
 refine(AB (Cm hh hf (by omega) (by omega)) _).trans ?_
 have h2:=JS (Ar .own (l++Aa s.length)) hh
 rw[ABN]
 refine(OO _).trans<|(Wu _).trans<|(MJ h2 _).trans ?_
 refine(AB (AEl Gf (Or.inl rfl) (y:=V.str s) (ys:=bytesOf s) rfl (Bf s) (E8 s) (by rw[Ai,Ai,List.length_append,Aa];omega) Zj) _).trans ?_
 rw[←E5]
 refine(OO _).trans<|(Wu _).trans<|(Wv (JS _ h2) _).trans ?_
 rw[AH6,FV,FV,List.take_of_length_le (by simp)]
theorem Ee {h:List V} {id:Nat} {f:Fl} {l:List UInt8} (hh:h[id]?=some (Ar f l)):Cl 50 [BK id] h=some (.str l,h):=by
 rw[AHT,ABX,ABY]
 refine(OO _).trans<|(Wu _).trans ?_
 have r:rd h id [0]=some (bL f l):=OD hh rfl
 refine(AB (show BI h 68 (.ref id [0] 68)=some (bL (wk f) l)by simp[BI,DI r,Yt]) _).trans ?_
 refine(AB (show conv P h 68 9 (bL (wk f) l)=some (.str l)by simp[conv,QW,J9,KY,bL,Af,I4]) _).trans ?_
 rw[MF,List.take_of_length_le (Nat.le_refl _)]
def KC (n:Int):Nat:=if 0≤n then(2*n).toNat else(-2*n-1).toNat
theorem Qh {h:List V} {id:Nat} {n:Int} {f:Fl} {l:List UInt8} (hh:h[id]?=some (Ar f l)) (hf:OK f) (h1: -9223372036854775808≤n) (h2:n<9223372036854775808) (hl:l.length+10≤2147483648):
 Cl 97 [BK id,.int .i64 n] h=some (.tup [],h.set id (Ar .own (l++Aa (KC n)))):=by
 rw[AHq,ABz]
 refine(AB (Cf N9 ..) _).trans ?_
 refine(AB (AGS _ _ _ _ (by omega)) _).trans ?_
 refine(AB (Ut _ _ _ _ (by omega)) _).trans ?_
 have m1:min ((1:Int)).toNat (IntKind.u64).bits=1:=by decide
 have m63:min ((63:Int)).toNat (IntKind.i64).bits=63:=by decide
 rw[m1,m63]
 refine(AB (Cf N9 ..) _).trans ?_
 have key:AO .xor (.int .u64 (IntKind.wrap .u64 (IntKind.wrap .u64 n*2^1))) (.int .u64 (IntKind.wrap .u64 (n.fdiv (2^63))))=some (.int .u64 ((KC n:Nat):Int)):=by
  rw[Ez,Ez,Ez]
  by_cases hn:0≤n
  ·have e1:n%18446744073709551616*2^1%18446744073709551616=(((2*n).toNat:Nat):Int):=by omega
   have e2:n.fdiv (2^63)%18446744073709551616=((0:Nat):Int):=by
    rw[Int.fdiv_eq_ediv_of_nonneg _ (by decide)];omega
   rw[e1,e2,u64_xor (by omega) (by omega),Nat.xor_zero,KC,if_pos hn]
  ·have e1:n%18446744073709551616*2^1%18446744073709551616=((18446744073709551615-(-2*n-1).toNat:Nat):Int):=by omega
   have e2:n.fdiv (2^63)%18446744073709551616=((18446744073709551615:Nat):Int):=by
    rw[Int.fdiv_eq_ediv_of_nonneg _ (by decide)];omega
   have hb:(-2*n-1).toNat<18446744073709551616:=by omega
   rw[e1,e2,u64_xor (by omega) (by omega),KC,if_neg hn]
   generalize (-2*n-1).toNat=m at hb
   have hx:∀x:Nat,x<18446744073709551616→x ^^^ 18446744073709551615=18446744073709551615-x:=by
    intro x hx
    apply Nat.eq_of_testBit_eq
    intro i
    rw[show 18446744073709551615-x=2^64-(x+1)by omega,Nat.testBit_two_pow_sub_succ (n:=64) hx i,Nat.testBit_xor,show(18446744073709551615:Nat)=2^64-1 by rfl,Nat.testBit_two_pow_sub_one]
    by_cases hi:i<64
    ·simp[hi]
    ·have:x.testBit i=false:=Nat.testBit_lt_two_pow (Nat.lt_of_lt_of_le hx (Nat.pow_le_pow_right (n:=2) (i:=64) (by decide) (by omega)))
     simp[hi,this]
   rw[hx _ (by omega)]
   congr 3;omega
 refine(AB key _).trans ?_
 rw[AGa]
 have hu:KC n<18446744073709551616:=by simp only[KC];split<;>omega
 refine(AB (Cm hh hf hu hl) _).trans ?_
 rw[AH6,List.take_of_length_le (by simp)]
end
end Go.Proofs.YtiegkempfolgcaaGreatDoor
