/-
  Part of the proof of a statement about the given program: an abstract machine over its code, the simulation, its functions' equations, what they compute.
-/
import Derived.Test.YtiegkempfolgcaaGreatDoorMg5
import Derived.Test.YtiegkempfolgcaaGreatDoorMg6
import Derived.Test.YtiegkempfolgcaaGreatDoorMg7
set_option linter.unusedVariables false
set_option linter.unusedSimpArgs false
set_option linter.unusedSectionVars false
set_option maxRecDepth 100000
noncomputable section
namespace Go.Proofs.YtiegkempfolgcaaGreatDoor
section
open Go AM
end
section
open Go AM
section
variable {P:Program}
theorem UU {t u:TypeId} {fs:List TypeId} {f:Nat} {ft:TypeId} (hk:K P t= .struct u fs) (hf:fs[f]?=some ft) (hc:P.cellsOf ft≠0) (id:Nat) (p:List Nat):Dh P t f (.ref id p t)=some (.ref id (p++[f]) ft):=by
 simp[Dh,hk,hf,hc]
theorem DJ {h:List V} {t:TypeId} {id:Nat} {p:List Nat} {v:V} (hr:rd h id p=some v):AZ h t (.ref id p t)=some v:=by simp[AZ,hr]
theorem KE {h:List V} {t:TypeId} {v:V}:AZ h t (.rop t v)=some v:=by simp[AZ]
theorem FH {h:List V} {id:Nat} {v:V} (hv:h[id]?=some v):rd h id []=some v:=by simp[rd,hv,V.at]
theorem Po {h:List V} {id i:Nat} {u:TypeId} {fs:List V} {v:V} (hv:h[id]?=some (.agg u fs)) (hi:fs[i]?=some v):rd h id [i]=some v:=by simp[rd,hv,V.at,hi]
theorem EY {h:List V} {t:TypeId} {id:Nat} {v w:V} (hw:h[id]?=some w) (ht:BK P t v=true) (hu:v.under (id+1)=true):Hz P h t (.ref id [] t) v=some (h.set id v):=by
 simp[Hz,ht,hu,wr,hw,V.upd]
theorem KF {h:List V} {t u:TypeId} {id i:Nat} {fs:List V} {v x:V} (hw:h[id]?=some (.agg u fs)) (hi:fs[i]?=some x) (ht:BK P t v=true) (hu:v.under (id+1)=true):Hz P h t (.ref id [i] t) v=some (h.set id (.agg u (fs.set i v))):=by
 simp[Hz,ht,hu,wr,hw,V.upd,hi]
end
theorem Vt {α:Type} {h:List α} {i:Nat} {x:α} (y:α) (hx:h[i]?=some x):(h.set i y)[i]?=some y:=by
 have hi:i<h.length:=by
  rcases Nat.lt_or_ge i h.length with h'|h'
  ·exact h'
  ·rw[List.getElem?_eq_none h']at hx;cases hx
 rw[List.getElem?_set];simp[hi]
theorem UW {α:Type} {h:List α} {i j:Nat} (y:α) (hij:j≠i):(h.set i y)[j]?=h[j]?:=by
 rw[List.getElem?_set];simp[Ne.symm hij]
theorem AA7 {α:Type} {l:List α} {i:Nat} {a:α} (h:l[i]?=some a):l.set i a=l:=by
 apply List.ext_getElem?
 intro j
 by_cases hj:j=i
 ·subst hj;rw[Vt a h,h]
 ·rw[UW a hj]
theorem Pq {α:Type} {h:List α} {i:Nat} {x:α} (hx:h[i]?=some x):i<h.length:=by
 rcases Nat.lt_or_ge i h.length with h'|h'
 ·exact h'
 ·rw[List.getElem?_eq_none h']at hx;cases hx
theorem take_set {α:Type} (h z:List α) (i:Nat) (y:α):(h.set i y++z).take h.length=h.set i y:=by
 have:(h.set i y).length=h.length:=by simp
 rw[←this];simp
theorem Rl {R:Type} {f:FuncId} {cs vs h:List V} (k:V→List V→Option R) (he:CZ.ext f=false) (hp:CZ.pure f=false) (hs:(CZ.seq f).1=0:=by kernel_rfl):CP P CZ W (.clo f cs) vs h k=(Cl f (AU (vs++cs)) h).bind fun r=>k r.1 r.2:=by
 simp only[CP,FU,he,hp,hs,ne_eq,not_true_eq_false,Bool.false_eq_true,if_false,if_true];rfl
theorem AA8 {f:FuncId} {vs:List V} (ht:CZ.two f=false):EX CZ W f vs=Cl f vs []:=by
 unfold EX
 rw[ht];rfl
theorem AA9 {R:Type} {f:FuncId} {cs vs h:List V} (k:V→List V→Option R) (he:CZ.ext f=false) (hp:CZ.pure f=true) (hs:(CZ.seq f).1=0:=by kernel_rfl) (ht:CZ.two f=false:=by kernel_rfl):CP P CZ W (.clo f cs) vs h k=(Cl f (AA h (vs++cs)) []).bind fun r=>k r.1 h:=by
 simp only[CP,FU,he,hp,hs,ne_eq,not_true_eq_false,Bool.false_eq_true,if_false,if_true,AA8 ht]
end
section
open Go AM
def Lp (s:List UInt8) (e:Nat):V:= .agg 129 [.str s,.int .i64 (e:Int)]
def XE (id:Nat):V:= .ref id [] 130
theorem ABA (n:Nat) (h:List V) (k:IntKind) (b:Int):AV n h (.int k b)=some (.int k b,h.take n):=rfl
theorem ABB (n:Nat) (h:List V) (s:List UInt8):AV n h (.str s)=some (.str s,h.take n):=rfl
theorem Lr (h:List V) (s:List UInt8):Cl 54 [.str s] h=some (XE h.length,h++[Lp s 0]):=by
 rw[ADd]
 have e1:YK P 130 [(0,V.str s)]=some (Lp s 0):=by
  simp[YK,ACk,ADx,Bj,BK,K_9,BN,Yw,cp,AHk,Lp]
 have e2:BK P 130 (Lp s 0)=true:=by simp[BK,ACk,Lp]
 have e3:V.under h.length (Lp s 0)=true:=rfl
 simp only[Yk,Yl,e1,Option.bind_some,e2,e3,Bool.and_self,if_true,KT]
 rfl
end
section
open Go AM
def vw (n:Nat):V:= .int .u32 (n:Int)
def Ib (l:List Nat):List V:=l.map vw
def A8 (l:List Nat):V:= .agg 184 (Ib l)
def Np (l:List Nat):V:= .agg 204 (Ib l)
def B32 (l:List Nat):Prop:=∀x∈l,x<4294967296
def Em (x n:Nat):Nat:=x*2^(32-n)%4294967296|||x/2^n
theorem CS {x n:Nat} (hx:x<4294967296):Em x n<4294967296:=
 Nat.or_lt_two_pow (n:=32) (Nat.mod_lt _ (by decide)) (Nat.lt_of_le_of_lt (Nat.div_le_self _ _) hx)
theorem EZ (n:Int):IntKind.wrap .u64 n=n%18446744073709551616:=by simp[IntKind.wrap,IntKind.bits,IntKind.signed]
theorem Ls (a n:Nat):Int.fdiv (a:Int) (2^n)=((a/2^n:Nat):Int):=by
 have e:(2:Int)^n=((2^n:Nat):Int):=by push_cast;rfl
 rw[e,Int.fdiv_eq_ediv_of_nonneg _ (Int.natCast_nonneg _)];rfl
theorem KG {a:Nat} (n:Nat) (hn:n≤32):AO .shr (.int .u32 (a:Int)) (.int .u64 (n:Int))=some (.int .u32 ((a/2^n:Nat):Int)):=by
 rw[Rk _ _ _ _ (by omega)]
 have:min ((n:Int)).toNat (IntKind.u32).bits=n:=by simp[IntKind.bits];omega
 rw[this,Ls]
theorem KH {a:Nat} (n:Nat) (hn:n≤32):AO .shl (.int .u32 (a:Int)) (.int .u64 (n:Int))=some (.int .u32 ((a*2^n%4294967296:Nat):Int)):=by
 rw[ACn _ _ _ _ (by omega)]
 have:min ((n:Int)).toNat (IntKind.u32).bits=n:=by simp[IntKind.bits];omega
 rw[this]
 have e:((a:Int)*2^n)=((a*2^n:Nat):Int):=by push_cast;rfl
 rw[e,FD]
theorem ABC (a b:Nat):AO .add (.int .u32 (a:Int)) (.int .u32 (b:Int))=some (.int .u32 (((a+b)%4294967296:Nat):Int)):=by
 rw[FZ,show(a:Int)+(b:Int)=((a+b:Nat):Int)by omega,FD]
theorem ABD {x:Nat} (hx:x<4294967296) (n:Nat) (h1:1≤n) (h2:n≤31):Cl 156 [.int .u32 (x:Int),.int .i64 (n:Int)] []=some (.int .u32 (Em x n:Int),[]):=by
 have key:Cl 172 [.int .u32 (x:Int),.int .i64 (-(n:Int))] []=some (.int .u32 (Em x n:Int),[]):=by
  rw[AA6]
  have w:IntKind.wrap .u64 (-(n:Int))=((18446744073709551616-n:Nat):Int):=by rw[EZ];omega
  have m:(18446744073709551616-n)&&& 31=32-n:=by
   rw[show(31:Nat)=2^5-1 from rfl,Nat.and_two_pow_sub_one_eq_mod];omega
  simp only[Vq,Vr,Vs,CV Pm,w,Option.bind_some]
  rw[show(31:Int)=((31:Nat):Int)from rfl,u64_and (by omega) (by omega),m,Option.bind_some,KH _ (by omega),Option.bind_some,OU,show(32:Int)-((32-n:Nat):Int)=(n:Int)by omega,wrap_u64 (by omega) (by omega),Option.bind_some,KG _ (by omega),Option.bind_some,
   u32_or (Nat.mod_lt _ (by decide)) (Nat.lt_of_le_of_lt (Nat.div_le_self _ _) hx),Option.bind_some,ABA]
  rfl
 rw[AA5]
 have ng:un .neg (.int .i64 (n:Int))=some (.int .i64 (-(n:Int))):=by
  simp only[un];rw[show(0:Int)-(n:Int)= -(n:Int)by omega,wrap_i64 (by omega) (by omega)]
 have e:AA [] [V.int .u32 (x:Int),V.int .i64 (-(n:Int))]=[V.int .u32 (x:Int),V.int .i64 (-(n:Int))]:=rfl
 simp only[Vo,Vp,ng,Option.bind_some,e,key]
 rfl
theorem AFP {h:List V} {x:Nat} (hx:x<4294967296) (n:Nat) (h1:1≤n) (h2:n≤31):Cl 156 (AA h [.int .u32 (x:Int),.int .i64 (n:Int)]) []=some (.int .u32 (Em x n:Int),[]):=ABD hx n h1 h2
theorem GV {l:List Nat} {i:Nat} (hi:i<l.length):(Ib l)[i]?=some (vw (l.getD i 0)):=by
 simp[Ib,List.getElem?_map,List.getElem?_eq_getElem hi]
theorem B32.get {l:List Nat} (h:B32 l) (i:Nat):l.getD i 0<4294967296:=by
 rcases Nat.lt_or_ge i l.length with hi|hi
 ·rw[List.getD_eq_getElem?_getD,List.getElem?_eq_getElem hi];exact h _ (List.getElem_mem hi)
 ·rw[List.getD_eq_getElem?_getD,List.getElem?_eq_none hi];decide
theorem Vu (l:List Nat) (i x:Nat):(Ib l).set i (vw x)=Ib (l.set i x):=by simp[Ib,List.map_set]
theorem ADz {id i:Nat} (hi:i<64):Aa P 204 (.ref id [] 204) (.int .i64 (i:Int))=some (.ref id [i] 149):=by
 have:inside (i:Int) 64=true:=by simp[inside];omega
 simp[Aa,ACm,this]
theorem ix8 {id i:Nat} (hi:i<8):Aa P 184 (.ref id [] 184) (.int .i64 (i:Int))=some (.ref id [i] 149):=by
 have:inside (i:Int) 8=true:=by simp[inside];omega
 simp[Aa,JX,this]
theorem ixK {i:Nat} (hi:i<64) {l:List Nat} (hl:l.length=64):Aa P 204 (.rop 204 (Np l)) (.int .i64 (i:Int))=some (.rop 149 (vw (l.getD i 0))):=by
 have:inside (i:Int) 64=true:=by simp[inside];omega
 simp[Aa,ACm,this,Np,GV (show i<l.length by omega)]
theorem AFQ (x:Nat):BK P 149 (vw x)=true:=by simp[BK,ACl,BN,Pn,vw]
theorem AHo {h:List V} {id i:Nat} {l:List Nat} (hh:h[id]?=some (Np l)) (hi:i<l.length):AZ h 149 (.ref id [i] 149)=some (vw (l.getD i 0)):=DJ (Po hh (GV hi))
theorem ld8 {h:List V} {id i:Nat} {l:List Nat} (hh:h[id]?=some (A8 l)) (hi:i<l.length):AZ h 149 (.ref id [i] 149)=some (vw (l.getD i 0)):=DJ (Po hh (GV hi))
theorem AFR {h:List V} {id i x:Nat} {l:List Nat} (hh:h[id]?=some (Np l)) (hi:i<l.length):Hz P h 149 (.ref id [i] 149) (vw x)=some (h.set id (Np (l.set i x))):=by
 rw[KF hh (GV hi) (AFQ x) rfl,Vu];rfl
theorem st8 {h:List V} {id i x:Nat} {l:List Nat} (hh:h[id]?=some (A8 l)) (hi:i<l.length):Hz P h 149 (.ref id [i] 149) (vw x)=some (h.set id (A8 (l.set i x))):=by
 rw[KF hh (GV hi) (AFQ x) rfl,Vu];rfl
def wordAt (p:List UInt8) (t:Nat):Nat:=((p.getD (4*t) 0).toNat*2^24%4294967296|||(p.getD (4*t+1) 0).toNat*2^16%4294967296)|||(p.getD (4*t+2) 0).toNat*2^8%4294967296|||(p.getD (4*t+3) 0).toNat
def Rn (p:List UInt8):Nat→Nat→List Nat→List Nat
 |0,_,w=>w
 |n+1,t,w=>Rn p n (t+1) (w.set t (wordAt p t))
theorem XF (p:List UInt8) (t:Nat):wordAt p t<4294967296:=by
 have h3:(p.getD (4*t+3) 0).toNat<2^32:=Nat.lt_of_lt_of_le (UInt8.toNat_lt _) (by decide)
 refine Nat.or_lt_two_pow (n:=32) (Nat.or_lt_two_pow (n:=32) (Nat.or_lt_two_pow (n:=32) (Nat.mod_lt _ (by decide)) (Nat.mod_lt _ (by decide))) (Nat.mod_lt _ (by decide))) h3
theorem B32.set {l:List Nat} (h:B32 l) (i:Nat) {x:Nat} (hx:x<4294967296):B32 (l.set i x):=by
 intro y hy
 rcases List.mem_or_eq_of_mem_set hy with hy|rfl
 ·exact h y hy
 ·exact hx
theorem OV {p:List UInt8} {i:Nat} (hi:i<p.length):(bytesOf p)[i]?=some (.int .u8 ((p.getD i 0).toNat:Int)):=by
 simp[bytesOf,List.getElem?_map,List.getElem?_eq_getElem hi]
theorem ixB {xs:List V} {f:Fl} {i:Nat} {v:V} (hv:xs[i]?=some v):Aa P 68 (.lst 5 f xs) (.int .i64 (i:Int))=some (.rop 5 v):=by
 have hi:=Pq hv
 have:inside (i:Int) xs.length=true:=by simp[inside,hi]
 simp[Aa,Gw,this,hv]
theorem ixW {xs:List V} {f:Fl} {i:Nat} {v:V} (hv:xs[i]?=some v):Aa P 68 (V.weak (.lst 5 f xs)) (.int .i64 (i:Int))=some (.rop 5 v):=by
 cases f<;>exact ixB hv
theorem ABE {h:List V} {f:Fl} {p:List UInt8} {t:Nat} {l:List Nat} (hp:4*t+4≤p.length) (ht:t<64) (hh:h[2]?=some (Np l)) (hl:l.length=64) (K:List V→Option (V×List V)):
 Pg (.ref 2 [] 204) (.int .i64 (t:Int)) (.lst 5 f (((bytesOf p).take (4*t+4)).drop (4*t))) h K=K (h.set 2 (Np (l.set t (wordAt p t)))):=by
 have g:∀j,j<4→(((bytesOf p).take (4*t+4)).drop (4*t))[j]?=some (.int .u8 ((p.getD (4*t+j) 0).toNat:Int)):=by
  intro j hj
  rw[List.getElem?_drop,List.getElem?_take_of_lt (by omega),OV (by omega)]
 have i0:=ixW (f:=f) (g 0 (by omega));have i1:=ixW (f:=f) (g 1 (by omega));have i2:=ixW (f:=f) (g 2 (by omega));have i3:=ixW (f:=f) (g 3 (by omega))
 have b:∀j,(p.getD j 0).toNat<256:=fun j=>UInt8.toNat_lt _
 have c:∀x:Nat,x<256→conv P h 5 149 (.int .u8 (x:Int))=some (.int .u32 (x:Int)):=fun x hx=>by rw[CV Pn,wrap_u32 (by omega) (by omega)]
 have s24:∀x:Nat,AO .shl (.int .u32 (x:Int)) (.int .u64 24)=some (.int .u32 ((x*2^24%4294967296:Nat):Int)):=fun x=>KH (a:=x) 24 (by omega)
 have s16:∀x:Nat,AO .shl (.int .u32 (x:Int)) (.int .u64 16)=some (.int .u32 ((x*2^16%4294967296:Nat):Int)):=fun x=>KH (a:=x) 16 (by omega)
 have s8:∀x:Nat,AO .shl (.int .u32 (x:Int)) (.int .u64 8)=some (.int .u32 ((x*2^8%4294967296:Nat):Int)):=fun x=>KH (a:=x) 8 (by omega)
 have m:∀x:Nat,x%4294967296<4294967296:=fun x=>Nat.mod_lt _ (by decide)
 have o1:=Nat.or_lt_two_pow (n:=32) (m ((p.getD (4*t+0) 0).toNat*2^24)) (m ((p.getD (4*t+1) 0).toNat*2^16))
 have o2:=Nat.or_lt_two_pow (n:=32) o1 (m ((p.getD (4*t+2) 0).toNat*2^8))
 simp only[Pg]
 rw[show(0:Int)=((0:Nat):Int)from rfl,show(1:Int)=((1:Nat):Int)from rfl,show(2:Int)=((2:Nat):Int)from rfl,show(3:Int)=((3:Nat):Int)from rfl,i0,i1,i2,i3]
 simp only[Option.bind_some,KE,c _ (b _),s24,s16,s8]
 rw[u32_or (m _) (m _)]
 simp only[Option.bind_some]
 rw[u32_or o1 (m _)]
 simp only[Option.bind_some]
 rw[u32_or o2 (by have:=b (4*t+3);omega)]
 simp only[Option.bind_some]
 rw[ADz ht,Option.bind_some]
 exact(congrArg (fun z=>Option.bind z fun h_1=>K h_1) (AFR (x:=wordAt p t) hh (by omega))).trans rfl
end
section
open Go AM
def sg0 (x:Nat):Nat:=(Em x 7 ^^^ Em x 18) ^^^ x/2^3
def sg1 (x:Nat):Nat:=(Em x 17 ^^^ Em x 19) ^^^ x/2^10
def ad (a b:Nat):Nat:=(a+b)%4294967296
def OW:Nat→Nat→List Nat→List Nat
 |0,_,w=>w
 |n+1,t,w=>OW n (t+1) (w.set t (ad (ad (ad (w.getD (t-16) 0) (w.getD (t-7) 0)) (sg0 (w.getD (t-15) 0))) (sg1 (w.getD (t-2) 0))))
theorem Y3 (a b:Nat):ad a b<4294967296:=Nat.mod_lt _ (by decide)
theorem Lu {a b:Nat} (ha:a<4294967296) (hb:b<4294967296):a ^^^ b<4294967296:=Nat.xor_lt_two_pow (n:=32) ha hb
theorem AD0 {a b:Nat} (ha:a<4294967296) (hb:b<4294967296):a|||b<4294967296:=Nat.or_lt_two_pow (n:=32) ha hb
theorem Pv {a b:Nat} (ha:a<4294967296):a&&& b<4294967296:=Nat.lt_of_le_of_lt Nat.and_le_left ha
theorem Vw {a:Nat} (n:Nat) (ha:a<4294967296):a/n<4294967296:=Nat.lt_of_le_of_lt (Nat.div_le_self _ _) ha
theorem EG (a b:Nat):AO .add (.int .u32 (a:Int)) (.int .u32 (b:Int))=some (.int .u32 (ad a b:Int)):=ABC a b
def rnd (k:List Nat) (w:List Nat) (t:Nat) (v:List Nat):List Nat:=
 let a:=v.getD 0 0;let b:=v.getD 1 0;let c:=v.getD 2 0;let e:=v.getD 4 0;let f:=v.getD 5 0;let g:=v.getD 6 0
 let x:=ad (ad (ad (ad (v.getD 7 0) ((Em e 6 ^^^ Em e 11) ^^^ Em e 25)) (g ^^^ (e&&& (f ^^^ g)))) (k.getD t 0)) (w.getD t 0)
 let y:=ad ((Em a 2 ^^^ Em a 13) ^^^ Em a 22) ((a&&& b)|||(c&&& (a|||b)))
 [ad x y,a,b,c,ad (v.getD 3 0) x,e,f,g]
def Ro (k w:List Nat):Nat→Nat→List Nat→List Nat
 |0,_,v=>v
 |n+1,t,v=>Ro k w n (t+1) (rnd k w t v)
def Px (v:List Nat):Nat→Nat→List Nat→List Nat
 |0,_,h=>h
 |n+1,i,h=>Px v n (i+1) (h.set i (ad (h.getD i 0) (v.getD i 0)))
def Dk:List Nat:=(match KX with|V.agg _ l=>l|_=>[]).map fun v=>match v with|V.int _ n=>n.toNat|_=>0
theorem ABF:KX=Np Dk:=by kernel_rfl
theorem AFS:Dk.length=64:=by kernel_rfl
def Rq (h:List Nat) (p:List UInt8):List Nat:=
 let w:=OW 48 16 (Rn p 16 0 (List.replicate 64 0))
 Px (Ro Dk w 64 0 h) 8 0 h
theorem Y4 {k w v:List Nat} (hv:B32 v) (t:Nat):B32 (rnd k w t v)∧(rnd k w t v).length=8:=by
 refine⟨?_,rfl⟩
 intro x hx
 simp only[rnd,List.mem_cons,List.not_mem_nil,or_false]at hx
 rcases hx with rfl|rfl|rfl|rfl|rfl|rfl|rfl|rfl<;>first|exact Y3 _ _|exact hv.get _
theorem Vx {v:List Nat}:∀(n i:Nat) (h:List Nat),B32 h→h.length=8→B32 (Px v n i h)∧(Px v n i h).length=8
 |0,_,h,hb,hl=>⟨hb,hl⟩
 |n+1,i,h,hb,hl=>Vx n (i+1) _ (hb.set i (Y3 _ _)) (by simp[hl])
theorem OX (h:List V):∀l:List Nat,Bh h (Ib l)=Ib l
 |[]=>rfl
 |x::l=>by simp only[Ib,List.map_cons,Bh];rw[show List.map vw l=Ib l from rfl,OX h l];rfl
theorem Rt:∀l:List Nat,AU (Ib l)=Ib l
 |[]=>rfl
 |x::l=>by simp only[Ib,List.map_cons,AU];rw[show List.map vw l=Ib l from rfl,Rt l];rfl
theorem OY:∀l:List Nat,AQ (Ib l)=true
 |[]=>rfl
 |x::l=>by simp only[Ib,List.map_cons,AQ];rw[show List.map vw l=Ib l from rfl,OY l];rfl
theorem Ru (n:Nat):∀l:List Nat,CQ n (Ib l)=true
 |[]=>rfl
 |x::l=>by simp only[Ib,List.map_cons,CQ];rw[show List.map vw l=Ib l from rfl,Ru n l];rfl
theorem D9 (n:Nat):∀l:List Nat,Ac n (Ib l)=true
 |[]=>rfl
 |x::l=>by simp only[Ib,List.map_cons,Ac];rw[show List.map vw l=Ib l from rfl,D9 n l];rfl
theorem AD1 (n:Nat) (h:List V) (l:List Nat):AV n h (A8 l)=some (A8 l,h.take n):=by
 simp only[AV,A8,V.unmut,OX,V.norm,Rt,V.clean,OY,V.over,Ru,Bool.and_self,if_true]
theorem ABG (v:List Nat) (hv:v.length=8) (x w z:V):∀(n i:Nat) (hs:List Nat),i+n=8→hs.length=8→
 KC (.ref 0 [] 184) (.ref 1 [] 184) (A8 v) (.int .i64 (i:Int)) [A8 hs,A8 (List.replicate 8 0),w,z]=some (A8 (Px v n i hs),[]):=by
 intro n
 induction n with
 |zero=>
  intro i hs hi hl
  rw[Ld]
  have:¬((i:Int)<8):=by omega
  have l0:AZ [A8 hs,A8 (List.replicate 8 0),w,z] 184 (.ref 0 [] 184)=some (A8 hs):=DJ (FH rfl)
  have s1:Hz P [A8 hs,A8 (List.replicate 8 0),w,z] 184 (.ref 1 [] 184) (A8 hs)=some [A8 hs,A8 hs,w,z]:=
   EY rfl (by simp[BK,JX,A8]) (by simp only[A8,V.under];exact D9 _ _)
  have l1:AZ [A8 hs,A8 hs,w,z] 184 (.ref 1 [] 184)=some (A8 hs):=DJ (FH rfl)
  simp only[Lc,Rh,b_lss,Option.bind_some,Yz,this,if_false,l0,s1,l1,AD1,List.take_zero,Px]
 |succ n ih=>
  intro i hs hi hl
  rw[Ld]
  have hlt:(i:Int)<8:=by omega
  have ix:JB P 184 (A8 v) (.int .i64 (i:Int))=some (vw (v.getD i 0)):=by
   have:inside (i:Int) 8=true:=by simp[inside];omega
   simp[JB,A8,JX,this,GV (show i<v.length by omega),cp,Yy]
  have l0:AZ [A8 hs,A8 (List.replicate 8 0),w,z] 149 (.ref 0 [i] 149)=some (vw (hs.getD i 0)):=ld8 rfl (by omega)
  have s0:Hz P [A8 hs,A8 (List.replicate 8 0),w,z] 149 (.ref 0 [i] 149) (vw (ad (hs.getD i 0) (v.getD i 0)))=some [A8 (hs.set i (ad (hs.getD i 0) (v.getD i 0))),A8 (List.replicate 8 0),w,z]:=st8 rfl (by omega)
  have a0:AO .add (vw (hs.getD i 0)) (vw (v.getD i 0))=some (vw (ad (hs.getD i 0) (v.getD i 0))):=EG _ _
  simp only[Lc,RY,RZ,Rf,b_lss,Option.bind_some,Yz,hlt,if_true,ix,ix8 (show i<8 by omega),l0,a0,s0,FZ]
  rw[show((i:Int)+1)=((i+1:Nat):Int)by omega,wrap_i64 (by omega) (by omega)]
  exact ih (i+1) _ (by omega) (by simp[hl])
theorem AHr {id:Nat} (j:Nat) (hj:j<8):Aa P 184 (.ref id [] 184) (.int .i64 (j:Int))=some (.ref id [j] 149):=ix8 hj
theorem at8 {B:Type} {h:List V} {id:Nat} {v:List Nat} (hh:h[id]?=some (A8 v)) (hv:v.length=8) (j:Nat) (hj:j<8) (K:V→Option B):
 (Aa P 184 (.ref id [] 184) (.int .i64 (j:Int))).bind (fun a=>(AZ h 149 a).bind K)=K (.int .u32 (v.getD j 0:Int)):=by
 rw[AHr j hj,Option.bind_some,ld8 hh (by omega),Option.bind_some];rfl
theorem Py {B:Type} {h:List V} {id:Nat} {v:List Nat} (hh:h[id]?=some (Np v)) (hv:v.length=64) (j:Nat) (hj:j<64) (K:V→Option B):
 (Aa P 204 (.ref id [] 204) (.int .i64 (j:Int))).bind (fun a=>(AZ h 149 a).bind K)=K (.int .u32 (v.getD j 0:Int)):=by
 rw[ADz hj,Option.bind_some,AHo hh (by omega),Option.bind_some];rfl
theorem atK {B:Type} {h:List V} (j:Nat) (hj:j<64) (K:V→Option B):
 (Aa P 204 (.rop 204 KX) (.int .i64 (j:Int))).bind (fun a=>(AZ h 149 a).bind K)=K (.int .u32 (Dk.getD j 0:Int)):=by
 rw[ABF,ixK hj AFS,Option.bind_some,KE,Option.bind_some];rfl
theorem trn {B:Type} {h:List V} {x:Nat} (hx:x<4294967296) (m:Nat) (h1:1≤m) (h2:m≤31) (K:V×List V→Option B):
 (Cl 156 (AA h [.int .u32 (x:Int),.int .i64 (m:Int)]) []).bind K=K (.int .u32 (Em x m:Int),[]):=by
 rw[AFP hx m h1 h2,Option.bind_some]
theorem AB {A B:Type} {o:Option A} {x:A} (h:o=some x) (K:A→Option B):o.bind K=K x:=by rw[h];rfl
theorem Rw {B:Type} {k:IntKind} {a b:Int} (h:a<b) (K:V→Option B):(AO .lss (.int k a) (.int k b)).bind K=K (.bool true):=by
 rw[b_lss,Option.bind_some,decide_eq_true h]
theorem Rx {B:Type} {k:IntKind} {a b:Int} (h:¬a<b) (K:V→Option B):(AO .lss (.int k a) (.int k b)).bind K=K (.bool false):=by
 rw[b_lss,Option.bind_some,decide_eq_false h]
theorem Dz {B:Type} (a b:Option B):V.ite (.bool true) a b=a:=rfl
theorem DU {B:Type} (a b:Option B):V.ite (.bool false) a b=b:=rfl
theorem Y5 {h:List V} {v:List Nat} (hh:h[3]?=some (A8 v)) (hv:v.length=8) (K:V→V→V→V→V→V→Option (V×List V)):
 LX (.ref 3 [] 184) h K=K (vw (v.getD 0 0)) (vw (v.getD 1 0)) (vw (v.getD 2 0)) (vw (v.getD 4 0)) (vw (v.getD 5 0)) (vw (v.getD 6 0)):=by
 unfold LX
 exact(at8 hh hv 0 (by omega) _).trans<|(at8 hh hv 1 (by omega) _).trans<|(at8 hh hv 2 (by omega) _).trans<|(at8 hh hv 4 (by omega) _).trans<|(at8 hh hv 5 (by omega) _).trans<|(at8 hh hv 6 (by omega) _)
def chE (e f g h7 k w:Nat):Nat:=ad (ad (ad (ad h7 ((Em e 6 ^^^ Em e 11) ^^^ Em e 25)) (g ^^^ (e&&& (f ^^^ g)))) k) w
def mjA (a b c:Nat):Nat:=ad ((Em a 2 ^^^ Em a 13) ^^^ Em a 22) ((a&&& b)|||(c&&& (a|||b)))
theorem Y6 {h:List V} {v w:List Nat} {t e f g:Nat} (hh:h[3]?=some (A8 v)) (hv:v.length=8) (hw:h[2]?=some (Np w)) (lw:w.length=64) (ht:t<64)
 (be:e<4294967296) (bf:f<4294967296) (bg:g<4294967296) (K:V→Option (V×List V)):
 LY (.ref 2 [] 204) (.ref 3 [] 184) (.int .i64 (t:Int)) (vw e) (vw f) (vw g) h K=K (vw (chE e f g (v.getD 7 0) (Dk.getD t 0) (w.getD t 0))):=by
 have r1:=CS (n:=6) be;have r2:=CS (n:=11) be;have r3:=CS (n:=25) be
 unfold LY
 refine(at8 hh hv 7 (by omega) _).trans ?_
 refine(trn be 6 (by omega) (by omega) _).trans<|(trn be 11 (by omega) (by omega) _).trans ?_
 refine(AB (u32_xor r1 r2) _).trans ?_
 refine(trn be 25 (by omega) (by omega) _).trans ?_
 refine(AB (u32_xor (Lu r1 r2) r3) _).trans ?_
 refine(AB (EG _ _) _).trans ?_
 refine(AB (u32_xor bf bg) _).trans ?_
 refine(AB (u32_and be (Lu bf bg)) _).trans ?_
 refine(AB (u32_xor bg (Pv be)) _).trans ?_
 refine(AB (EG _ _) _).trans ?_
 refine(atK t ht _).trans ?_
 refine(AB (EG _ _) _).trans ?_
 refine(Py hw lw t ht _).trans ?_
 exact AB (EG _ _) _
theorem Y7 {h:List V} {a b c:Nat} (ba:a<4294967296) (bb:b<4294967296) (bc:c<4294967296) (K:V→Option (V×List V)):
 LZ (vw a) (vw b) (vw c) h K=K (vw (mjA a b c)):=by
 have r1:=CS (n:=2) ba;have r2:=CS (n:=13) ba;have r3:=CS (n:=22) ba
 unfold LZ
 refine(trn ba 2 (by omega) (by omega) _).trans<|(trn ba 13 (by omega) (by omega) _).trans ?_
 refine(AB (u32_xor r1 r2) _).trans ?_
 refine(trn ba 22 (by omega) (by omega) _).trans ?_
 refine(AB (u32_xor (Lu r1 r2) r3) _).trans ?_
 refine(AB (u32_and ba bb) _).trans ?_
 refine(AB (u32_or ba bb) _).trans ?_
 refine(AB (u32_and bc (AD0 ba bb)) _).trans ?_
 refine(AB (u32_or (Pv ba) (Pv bc)) _).trans ?_
 exact AB (EG _ _) _
theorem AHt (z0 z1 z2 z3 z4 z5 z6 z7:Nat):YK P 184 [(0,.int .u32 (z0:Int)),(1,.int .u32 (z1:Int)),(2,.int .u32 (z2:Int)),(3,.int .u32 (z3:Int)),(4,.int .u32 (z4:Int)),(5,.int .u32 (z5:Int)),(6,.int .u32 (z6:Int)),(7,.int .u32 (z7:Int))]=some (A8 [z0,z1,z2,z3,z4,z5,z6,z7]):=by
 simp[YK,JX,UR,Bj,BK,ACl,BN,Pn,cp,Yy,A8,Ib,vw,List.replicate]
theorem Y8 {h:List V} {v:List Nat} {a b c e f g x y:Nat} (hh:h[3]?=some (A8 v)) (hv:v.length=8) (K:List V→Option (V×List V)):
 La (.ref 3 [] 184) (vw a) (vw b) (vw c) (vw e) (vw f) (vw g) (vw x) (vw y) h K=K (h.set 3 (A8 [ad x y,a,b,c,ad (v.getD 3 0) x,e,f,g])):=by
 unfold La
 refine(AB (EG _ _) _).trans ?_
 refine(at8 hh hv 3 (by omega) _).trans ?_
 refine(AB (EG _ _) _).trans ?_
 refine(AB (AHt _ _ _ _ _ _ _ _) _).trans ?_
 exact AB (EY hh (by simp[BK,JX,A8]) (by simp only[A8,V.under];exact D9 _ _)) _
theorem AD2 (k w v:List Nat) (t:Nat):rnd k w t v=[ad (chE (v.getD 4 0) (v.getD 5 0) (v.getD 6 0) (v.getD 7 0) (k.getD t 0) (w.getD t 0)) (mjA (v.getD 0 0) (v.getD 1 0) (v.getD 2 0)),v.getD 0 0,v.getD 1 0,v.getD 2 0,
 ad (v.getD 3 0) (chE (v.getD 4 0) (v.getD 5 0) (v.getD 6 0) (v.getD 7 0) (k.getD t 0) (w.getD t 0)),v.getD 4 0,v.getD 5 0,v.getD 6 0]:=rfl
theorem AD3 (k w:List Nat) (n t:Nat) (v:List Nat):Ro k w (n+1) t v=Ro k w n (t+1) (rnd k w t v):=rfl
theorem ABH (h w:List Nat) (hh:h.length=8) (hw:w.length=64) (bw:B32 w):∀(n t:Nat) (v:List Nat),t+n=64→B32 v→v.length=8→
 KA (.ref 0 [] 184) (.ref 1 [] 184) (.ref 2 [] 204) (.ref 3 [] 184) (.int .i64 (t:Int)) [A8 h,A8 (List.replicate 8 0),Np w,A8 v]=
  some (A8 (Px (Ro Dk w n t v) 8 0 h),[]):=by
 intro n
 induction n with
 |zero=>
  intro t v ht bv hv
  rw[Le]
  have:¬((t:Int)<64):=by omega
  have l3:AZ [A8 h,A8 (List.replicate 8 0),Np w,A8 v] 184 (.ref 3 [] 184)=some (A8 v):=DJ (FH rfl)
  simp only[LW,RX,b_lss,Option.bind_some,Yz,this,if_false,l3,Ro]
  exact ABG v hv (A8 v) (Np w) (A8 v) 8 0 h rfl hh
 |succ n ih=>
  intro t v ht bv hv
  rw[Le]
  have hlt:(t:Int)<64:=by omega
  have ht':t<64:=by omega
  rw[LW,Rw hlt,Dz,RU]
  rw[Y5 rfl hv,Y6 rfl hv rfl hw ht' (bv.get 4) (bv.get 5) (bv.get 6),Y7 (bv.get 0) (bv.get 1) (bv.get 2),Y8 rfl hv,←AD2]
  simp only[RV,FZ]
  rw[show((t:Int)+1)=((t+1:Nat):Int)by omega,wrap_i64 (by omega) (by omega),AD3]
  have st:[A8 h,A8 (List.replicate 8 0),Np w,A8 v].set 3 (A8 (rnd Dk w t v))=[A8 h,A8 (List.replicate 8 0),Np w,A8 (rnd Dk w t v)]:=rfl
  rw[st]
  exact ih (t+1) _ (by omega) (Y4 bv t).1 (Y4 bv t).2
end
section
open Go AM
theorem Nq {B:Type} {a b:Nat} (h:b≤a) (ha:a<2^62) (K:V→Option B):(AO .sub (.int .i64 (a:Int)) (.int .i64 (b:Int))).bind K=K (.int .i64 ((a-b:Nat):Int)):=by
 rw[OU,show(a:Int)-(b:Int)=((a-b:Nat):Int)by omega,wrap_i64 (by omega) (by omega)];rfl
theorem Nr {B:Type} {a b:Nat} (h:a+b<2^62) (K:V→Option B):(AO .add (.int .i64 (a:Int)) (.int .i64 (b:Int))).bind K=K (.int .i64 ((a+b:Nat):Int)):=by
 rw[FZ,show(a:Int)+(b:Int)=((a+b:Nat):Int)by omega,wrap_i64 (by omega) (by omega)];rfl
theorem ABJ {B:Type} {a b:Nat} (h:a*b<2^62) (K:V→Option B):(AO .mul (.int .i64 (a:Int)) (.int .i64 (b:Int))).bind K=K (.int .i64 ((a*b:Nat):Int)):=by
 rw[Ri,←Int.natCast_mul,wrap_i64 (by omega) (by omega)];rfl
theorem AFT {f:Fl} {t s:TypeId} {xs:List V} {a b:Nat} (k:K P s= .slice t) (h1:a≤b) (h2:b≤xs.length):
 Js P s (V.weak (.lst t f xs)) (some (.int .i64 (a:Int))) (some (.int .i64 (b:Int))) none=some (.lst t f.cut ((xs.take b).drop a)):=by
 have e1:(0:Int)≤(b:Int)∧b≤xs.length:=⟨by omega,h2⟩
 have e2:(0:Int)≤(a:Int)∧(a:Int)≤(b:Int):=⟨by omega,by omega⟩
 cases f<;>simp[Js,V.weak,k,BD,e1,e2,Fl.cut,h1,h2]
section
variable {h:List V} {w:List Nat} {t:Nat}
variable (hw:h[2]?=some (Np w)) (lw:w.length=64) (bw:B32 w) (ht:t<64)
include hw lw bw ht
theorem Y9 (h16:16≤t) (K:V→Option (V×List V)):
 LQ (.ref 2 [] 204) (.int .i64 (t:Int)) h K=K (vw (sg0 (w.getD (t-15) 0))):=by
 have b:=bw.get (t-15)
 unfold LQ
 refine(Nq (b:=15) (by omega) (by omega) _).trans<|(Py hw lw (t-15) (by omega) _).trans<|(trn b 7 (by omega) (by omega) _).trans ?_
 refine(Nq (b:=15) (by omega) (by omega) _).trans<|(Py hw lw (t-15) (by omega) _).trans<|(trn b 18 (by omega) (by omega) _).trans ?_
 refine(AB (u32_xor (CS b) (CS b)) _).trans ?_
 refine(Nq (b:=15) (by omega) (by omega) _).trans<|(Py hw lw (t-15) (by omega) _).trans ?_
 refine(AB (KG 3 (by omega)) _).trans ?_
 exact AB (u32_xor (Lu (CS b) (CS b)) (Vw _ b)) _
theorem ZA (h16:16≤t) (K:V→Option (V×List V)):
 LU (.ref 2 [] 204) (.int .i64 (t:Int)) h K=K (vw (sg1 (w.getD (t-2) 0))):=by
 have b:=bw.get (t-2)
 unfold LU
 refine(Nq (b:=2) (by omega) (by omega) _).trans<|(Py hw lw (t-2) (by omega) _).trans<|(trn b 17 (by omega) (by omega) _).trans ?_
 refine(Nq (b:=2) (by omega) (by omega) _).trans<|(Py hw lw (t-2) (by omega) _).trans<|(trn b 19 (by omega) (by omega) _).trans ?_
 refine(AB (u32_xor (CS b) (CS b)) _).trans ?_
 refine(Nq (b:=2) (by omega) (by omega) _).trans<|(Py hw lw (t-2) (by omega) _).trans ?_
 refine(AB (KG 10 (by omega)) _).trans ?_
 exact AB (u32_xor (Lu (CS b) (CS b)) (Vw _ b)) _
theorem ZB (h16:16≤t) (x y:Nat) (K:List V→Option (V×List V)):
 LV (.ref 2 [] 204) (.int .i64 (t:Int)) (vw x) (vw y) h K=K (h.set 2 (Np (w.set t (ad (ad (ad (w.getD (t-16) 0) (w.getD (t-7) 0)) x) y)))):=by
 unfold LV
 refine(Nq (b:=16) (by omega) (by omega) _).trans<|(Py hw lw (t-16) (by omega) _).trans ?_
 refine(Nq (b:=7) (by omega) (by omega) _).trans<|(Py hw lw (t-7) (by omega) _).trans ?_
 refine(AB (EG _ _) _).trans ?_
 refine(AB (EG _ _) _).trans ?_
 refine(AB (EG _ _) _).trans ?_
 refine(AB (ADz ht) _).trans ?_
 exact AB (AFR hw (by omega)) _
end
theorem ABK (n t:Nat) (w:List Nat):OW (n+1) t w=OW n (t+1) (w.set t (ad (ad (ad (w.getD (t-16) 0) (w.getD (t-7) 0)) (sg0 (w.getD (t-15) 0))) (sg1 (w.getD (t-2) 0)))):=rfl
theorem ABL (p:List UInt8) (n t:Nat) (w:List Nat):Rn p (n+1) t w=Rn p n (t+1) (w.set t (wordAt p t)):=rfl
theorem ABM (h:List Nat) (hh:h.length=8) (bh:B32 h):∀(n t:Nat) (w:List Nat),t+n=64→16≤t→B32 w→w.length=64→
 J9 (.ref 0 [] 184) (.ref 1 [] 184) (.ref 2 [] 204) (.int .i64 (t:Int)) [A8 h,A8 (List.replicate 8 0),Np w]=
  some (A8 (Px (Ro Dk (OW n t w) 64 0 h) 8 0 h),[]):=by
 intro n
 induction n with
 |zero=>
  intro t w ht h16 bw lw
  rw[Lh,Ph,Rx (by omega),DU,RS]
  have z:zero P 184=A8 (List.replicate 8 0):=by rw[UR];rfl
  have l0:AZ [A8 h,A8 (List.replicate 8 0),Np w] 184 (.ref 0 [] 184)=some (A8 h):=DJ (FH rfl)
  rw[l0,z]
  refine(AB (EY (h:=[A8 h,A8 (List.replicate 8 0),Np w]++[A8 (List.replicate 8 0)]) rfl (by simp[BK,JX,A8]) (by simp only[A8,V.under];exact D9 _ _)) _).trans ?_
  exact ABH h w hh lw bw 64 0 h rfl bh hh
 |succ n ih=>
  intro t w ht h16 bw lw
  rw[Lh,Ph,Rw (by omega),Dz,Y9 rfl lw bw (by omega) h16,ZA rfl lw bw (by omega) h16,ZB rfl lw bw (by omega) h16,RQ,ABK]
  refine(Nr (b:=1) (by omega) _).trans ?_
  exact ih (t+1) _ (by omega) (by omega) (bw.set t (Y3 _ _)) (by simp[lw])
theorem ABN (h:List Nat) (hh:h.length=8) (bh:B32 h) (p:List UInt8) (hp:p.length=64) (f:Fl):∀(n t:Nat) (w:List Nat),t+n=16→B32 w→w.length=64→
 J8 (.lst 5 f (bytesOf p)) (.ref 0 [] 184) (.ref 1 [] 184) (.ref 2 [] 204) (.int .i64 (t:Int)) [A8 h,A8 (List.replicate 8 0),Np w]=
  some (A8 (Px (Ro Dk (OW 48 16 (Rn p n t w)) 64 0 h) 8 0 h),[]):=by
 intro n
 induction n with
 |zero=>
  intro t w ht bw lw
  rw[Lj,Pe,Rx (by omega),DU,Vm]
  exact ABM h hh bh 48 16 w rfl (by omega) bw lw
 |succ n ih=>
  intro t w ht bw lw
  rw[Lj,Pe,Rw (by omega),Dz,Vj,Vk]
  refine(ABJ (a:=4) (by omega) _).trans<|(ABJ (a:=4) (by omega) _).trans<|(Nr (b:=4) (by omega) _).trans ?_
  refine(AB (AFT (f:=f) (t:=5) (xs:=bytesOf p) Gw (a:=4*t) (b:=4*t+4) (by omega) (by simp[bytesOf];omega)) _).trans ?_
  rw[ABE (by omega) (by omega) rfl lw,Vl,ABL]
  refine(Nr (b:=1) (by omega) _).trans ?_
  exact ih (t+1) _ (by omega) (bw.set t (XF p t)) (by simp[lw])
theorem ABO {h:List Nat} (hh:h.length=8) (bh:B32 h) {p:List UInt8} (hp:p.length=64) (f:Fl):
 Cl 136 [A8 h,.lst 5 f (bytesOf p)] []=some (A8 (Rq h p),[]):=by
 have tk:(BK P 184 (A8 h)&&V.under (List.length ([]:List V)) (A8 h))=true:=by
  simp only[A8,V.under,D9,BK,JX];simp
 rw[AA4,Vf,if_pos tk,Vg,Vh,UR,ADy]
 have z32:B32 (List.replicate 64 0):=fun x hx=>by rw[List.eq_of_mem_replicate hx];decide
 exact ABN h hh bh p hp f 16 0 (List.replicate 64 0) rfl z32 rfl
end
section
open Go AM
section
variable {B:Type} {s e u:TypeId} {f:Fl} {xs:List V} {h:List V}
theorem Ic:∃g,V.weak (.lst e f xs)= .lst e g xs:=by cases f<;>exact⟨_,rfl⟩
theorem AD4 (hu:P.underlying s=some (.slice u)) (K:V→Option B):(lenV P s (.lst e f xs)).bind K=K (.int .i64 (xs.length:Int)):=by
 simp[lenV,hu]
theorem ZC (hu:P.underlying s=some (.slice u)) (K:V→Option B):(lenV P s (V.weak (.lst e f xs))).bind K=K (.int .i64 (xs.length:Int)):=by
 obtain⟨g,hg⟩:=Ic (e:=e) (f:=f) (xs:=xs);rw[hg];exact AD4 hu K
theorem AD5 (hk:K P s= .slice e) {i:Nat} {v:V} (hv:xs[i]?=some v) (K:V→Option B):
 (Aa P s (.lst e f xs) (.int .i64 (i:Int))).bind K=K (.rop e v):=by
 have hi:=Pq hv
 have:inside (i:Int) xs.length=true:=by simp[inside,hi]
 simp[Aa,hk,this,hv]
theorem AFU (hk:K P s= .slice e) {i:Nat} {v:V} (hv:xs[i]?=some v) (K:V→Option B):
 (Aa P s (V.weak (.lst e f xs)) (.int .i64 (i:Int))).bind K=K (.rop e v):=by
 obtain⟨g,hg⟩:=Ic (e:=e) (f:=f) (xs:=xs);rw[hg];exact AD5 hk hv K
theorem ABP {v:V} (K:V→Option B):(A7 h e (.rop e v)).bind K=K v.weak:=by rw[A7,KE];rfl
theorem AHu (hk:K P s= .slice e) (hf:f= .own∨f= .nil) {y:V} {ys:List V} (hy:Ae h y=some ys) (hc:AQ ys=true) (ht:KQ P e ys=true) (hl:xs.length+ys.length≤2147483648) (hn:Az P depth e=false) (hne:f= .nil→ys.isEmpty=false:=by first|(intro h;cases h;done)|(intro _;rfl)):
 Eh P s h (.lst e f xs) y=some (.lst e .own (xs++ys)):=by
 rcases hf with rfl|rfl
 ·simp[Eh,hk,hy,hc,ht,hl,C9,Ci,hn]
 ·have:=hne rfl
  cases ys with
  |nil=>cases this
  |cons y0 ys0=>simp[Eh,hk,hy,hc,ht,hl,C9,Ci,hn]<;>exact decide_eq_true (by simpa using hl)
theorem AFV (hk:K P s= .slice e) {v:V} (ht:BK P e v=true) (hc:v.clean=true) (hn:Az P depth e=false) (hz:∃z,zero P e=z):
 EU P s 1 [(0,v)]=some (.lst e .own [v]):=by
 simp[EU,hk,Bj,ht,List.replicate,cp,hn,AQ,hc,Ci]
end
def bL (f:Fl) (l:List UInt8):V:= .lst 5 f (bytesOf l)
theorem Ag (l:List UInt8):(bytesOf l).length=l.length:=by simp[bytesOf]
theorem JY (a b:List UInt8):bytesOf (a++b)=bytesOf a++bytesOf b:=by simp[bytesOf]
theorem bytesOf_take (n:Nat) (a:List UInt8):(bytesOf a).take n=bytesOf (a.take n):=by simp[bytesOf,List.map_take]
theorem bytesOf_drop (n:Nat) (a:List UInt8):(bytesOf a).drop n=bytesOf (a.drop n):=by simp[bytesOf,List.map_drop]
theorem Bo:∀l:List UInt8,AQ (bytesOf l)=true
 |[]=>rfl
 |x::l=>by simp only[bytesOf,List.map_cons,AQ];rw[show List.map _ l=bytesOf l from rfl,Bo l];rfl
theorem Pz (x:Int):BK P 5 (.int .u8 x)=true:=by simp[BK,K_5,BN,OT]
theorem Fa (l:List UInt8):KQ P 5 (bytesOf l)=true:=by
 simp[KQ,bytesOf,Pz]
theorem OZ {B:Type} {f:Fl} {l:List UInt8} (K':V→Option B):(lenV P 68 (V.weak (bL f l))).bind K'=K' (.int .i64 (l.length:Int)):=by
 rw[bL,ZC Ll,Ag]
theorem AFW {B:Type} {f:Fl} {l:List UInt8} (K':V→Option B):(lenV P 68 (bL f l)).bind K'=K' (.int .i64 (l.length:Int)):=by
 rw[bL,AD4 Ll,Ag]
theorem AFX {f:Fl} {h:List V} {l m:List UInt8} {g:Fl} (hf:f= .own∨f= .nil) (hl:l.length+m.length≤2147483648) (hne:f= .nil→m.isEmpty=false:=by first|(intro h;cases h;done)|(intro _;rfl)):
 Eh P 68 h (bL f l) (bL g m)=some (bL .own (l++m)):=by
 rw[bL,AHu Gw hf (y:=bL g m) (ys:=bytesOf m) rfl (Bo m) (Fa m) (by simpa [Ag]using hl) Yv (fun h=>by have:=hne h;cases m<;>first|(cases this;done)|rfl),bL,JY]
theorem ZE (x:Nat) (hx:x<256):EU P 68 1 [(0,.int .u8 (x:Int))]=some (bL .own [UInt8.ofNat x]):=by
 rw[AFV Gw (Pz _) rfl Yv ⟨_,rfl⟩,bL]
 simp[bytesOf,Nat.mod_eq_of_lt hx]
theorem app1 {B:Type} {f:Fl} {h:List V} {l:List UInt8} (hf:f= .own∨f= .nil) (hl:l.length+1≤2147483648) (x:Nat) (hx:x<256) (K':V→Option B):
 (EU P 68 1 [(0,.int .u8 (x:Int))]).bind (fun y=>(Eh P 68 h (bL f l) y).bind K')=K' (bL .own (l++[UInt8.ofNat x])):=by
 rw[ZE x hx]
 exact AB (AFX hf (by simpa using hl) (fun _=>rfl)) K'
end
section
open Go AM
def part (p:Fl×List UInt8):V:=bL p.1 p.2
def parts (L:List (Fl×List UInt8)):List V:=L.map part
def flat (L:List (Fl×List UInt8)):List UInt8:=(L.map (·.2)).flatten
theorem EH:∀l:List UInt8,AU (bytesOf l)=bytesOf l
 |[]=>rfl
 |x::l=>by simp only[bytesOf,List.map_cons,AU];rw[show List.map _ l=bytesOf l from rfl,EH l];rfl
theorem Oa {L:List (Fl×List UInt8)} {i:Nat} (hi:i<L.length):(parts L)[i]?=some (part L[i]):=by
 simp[parts,hi]
theorem GX (p:Fl×List UInt8):∃g,(part p).weak=bL g p.2:=by
 obtain⟨f,l⟩:=p;exact Ic
theorem ZF {s e:TypeId} {id off len a:Nat} {p:List Nat} (k:K P s= .slice e) (h1:a≤len):
 Js P s (V.weak (.win id p off len e)) (some (.int .i64 (a:Int))) none none=some (.win id p (off+a) (len-a) e):=by
 have e2:(0:Int)≤(a:Int)∧(a:Int)≤(len:Int):=⟨by omega,by omega⟩
 simp[Js,V.weak,k,BD,e2,h1]
theorem UX {e:TypeId} {s:TypeId} {off len:Nat} {xs ys:List V} {y:V} (k:K P s= .slice e) (hy:Ae [.row e xs] y=some ys) (hc:AQ ys=true) (ht:KQ P e ys=true) (hn:Az P depth e=false) (hl:ys.length≤len):
 cpy P s [.row e xs] (.win 0 [] off len e) y=some (.int .i64 (ys.length:Int),[.row e (xs.take off++ys++xs.drop (off+ys.length))]):=by
 have m:min ys.length len=ys.length:=by omega
 simp[cpy,Dx,k,hy,hc,ht,rd,V.at,V.items,wr,V.upd,Ci,hn,m]
theorem H8 (p:Fl×List UInt8) (L:List (Fl×List UInt8)):flat (p::L)=p.2++flat L:=rfl
theorem ABQ (fs:Fl) (L:List (Fl×List UInt8)) (hL:L.length<2147483648) (f:Fl) (N:Nat) (hN:N<2147483648) (h0:0<N):∀(n i:Nat) (done:List UInt8),i+n=L.length→N=done.length+(flat (L.drop i)).length→
 J7 (.lst 5 fs []) (.win 0 [] 0 N 5) (.int .i64 (done.length:Int)) (.lst 68 f (parts L)) (.int .i64 (L.length:Int)) (.int .i64 (i:Int)) [.row 5 (bytesOf done++List.replicate (N-done.length) .undef)]=
  some (bL .own (done++flat (L.drop i)),[]):=by
 intro n
 induction n with
 |zero=>
  intro i done hi hn
  have hd:L.drop i=[]:=by simp;omega
  rw[hd]at hn⊢
  simp only[flat,List.map_nil,List.flatten_nil,List.length_nil,Nat.add_zero,List.append_nil]at hn⊢
  subst hn
  rw[LM,LK,Rx (by omega),DU,RP]
  have c:Ae [V.row 5 (bytesOf done)] (.win 0 [] 0 done.length 5)=some (bytesOf done):=by
   simp[Ae,rd,V.at,V.items,Ag]
   rw[List.take_of_length_le (by simp[Ag])]
  simp[Nl,c,Bo,EH,bL,Nat.ble,Nat.blt,Nat.ble_eq]
  exact List.ne_nil_of_length_pos h0
 |succ n ih=>
  intro i done hi hn
  have hlt:i<L.length:=by omega
  rw[LM,LK,Rw (by omega),Dz,RH]
  refine(AD5 Lm (Oa hlt) _).trans<|(ABP _).trans ?_
  obtain⟨g,hg⟩:=GX L[i]
  rw[hg]
  rw[RI]
  refine(AB (ZF Gw (by omega)) _).trans ?_
  refine(AB (UX (ys:=[]) Gw (by cases fs<;>rfl) rfl rfl Yv (Nat.zero_le _)) _).trans ?_
  refine(Nr (b:=0) (by simp;omega) _).trans ?_
  simp only[List.length_nil,Nat.add_zero,Nat.zero_add,List.append_nil,List.take_append_drop]
  rw[RJ]
  have hd:flat (L.drop i)=L[i].2++flat (L.drop (i+1)):=by rw[List.drop_eq_getElem_cons hlt,H8]
  rw[hd]at hn⊢
  rw[List.length_append]at hn
  refine(AB (ZF Gw (by omega)) _).trans ?_
  refine(AB (UX (ys:=bytesOf L[i].2) Gw rfl (Bo _) (Fa _) Yv (by rw[Ag];omega)) _).trans ?_
  rw[Ag]
  refine(Nr (by omega) _).trans ?_
  rw[RN]
  refine(Nr (b:=1) (by omega) _).trans ?_
  have:=ih (i+1) (done++L[i].2) (by omega) (by simp;omega)
  rw[List.append_assoc,List.length_append]at this
  rw[←this]
  congr 1
  simp[JY,Ag,List.take_append,List.drop_append,List.take_of_length_le,List.drop_eq_nil_of_le]
  omega
theorem AHv {R:Type} {n:Nat} {h:List V} (hn:n≤2147483648) (k:V→List V→Option R):mnz P 0 155 [.int .i64 (n:Int)] h k=k (.win h.length [] 0 n 5) (h++[.row 5 (List.replicate n .undef)]):=by
 have:(0:Nat)=0∧(0:Int)≤(n:Int)∧(n:Int)≤(C9:Int):=⟨rfl,by omega,by simp only[C9];omega⟩
 unfold mnz
 refine(if_pos this).trans ?_
 have key:∀e:TypeId,e=5→k (.win h.length [] 0 (n:Int).toNat e) (h++[.row e (List.replicate (n:Int).toNat .undef)])=k (.win h.length [] 0 n 5) (h++[.row 5 (List.replicate n .undef)]):=by rintro _ rfl;rfl
 exact key _ (by kernel_rfl)
theorem ABR {s e:TypeId} {id off len b:Nat} {p:List Nat} (k:K P s= .slice e) (h1:b≤len):
 Js P s (.win id p off len e) none (some (.int .i64 (b:Int))) (some (.int .i64 (b:Int)))=some (.win id p off b e):=by
 have e2:(0:Int)≤(b:Int)∧(b:Int)≤(len:Int):=⟨by omega,by omega⟩
 simp[Js,V.weak,k,BD,e2,h1]
theorem ABS (fs:Fl) (L:List (Fl×List UInt8)) (hL:L.length<2147483648) (hL0:0<L.length) (f:Fl) (hN:(flat L).length<2147483648) (h0:0<(flat L).length):∀(n i acc:Nat),i+n=L.length→acc+(flat (L.drop i)).length=(flat L).length→
 J6 (.lst 68 f (parts L)) (.lst 5 fs []) (.int .i64 (acc:Int)) (V.weak (.lst 68 f (parts L))) (.int .i64 (L.length:Int)) (.int .i64 (i:Int)) []=
  some (bL .own (flat L),[]):=by
 intro n
 induction n with
 |zero=>
  intro i acc hi hn
  have hd:L.drop i=[]:=by simp;omega
  rw[hd]at hn
  have e0:(flat ([]:List (Fl×List UInt8))).length=0:=rfl
  rw[LP,LJ,Rx (by omega),DU,RD]
  have hacc:acc=(flat L).length:=by omega
  subst hacc
  rw[AHv (by omega)]
  refine(AB (ABR Gw (Nat.le_refl _)) _).trans ?_
  obtain⟨p,L',rfl⟩:=List.exists_cons_of_length_pos hL0
  rw[RF]
  refine(AFU (i:=0) (v:=part p) Lm rfl _).trans<|(ABP _).trans ?_
  obtain⟨g,hg⟩:=GX p
  rw[hg]
  refine(AB (UX (ys:=bytesOf p.2) Gw rfl (Bo _) (Fa _) Yv (by rw[Ag,H8,List.length_append];omega)) _).trans ?_
  rw[RG]
  have sl:Js P 182 (.lst 68 f (parts (p::L'))) (some (.int .i64 1)) none none=some (.lst 68 f.cut (parts L')):=by
   have e1:(1:Int)≤((parts L').length:Int)+1:=by omega
   simp[Js,Lm,BD,parts,e1]
   constructor
   ·omega
   ·rw[List.take_of_length_le (by simp)]
  refine(AB sl _).trans ?_
  refine(AD4 KD _).trans ?_
  have:=ABQ fs L' (by simp at hL;omega) f.cut (flat (p::L')).length hN h0 L'.length 0 p.2 (by omega) (by rw[H8,List.length_append];rfl)
  simp only[List.drop_zero]at this
  rw[←H8]at this
  refine Eq.trans ?_ this
  simp only[parts,List.length_map,Ag,List.length_nil,List.nil_append,List.take_zero,Nat.zero_add,List.drop_replicate]
  rfl
 |succ n ih=>
  intro i acc hi hn
  have hlt:i<L.length:=by omega
  have hd:flat (L.drop i)=L[i].2++flat (L.drop (i+1)):=by rw[List.drop_eq_getElem_cons hlt,H8]
  rw[hd,List.length_append]at hn
  rw[LP,LJ,Rw (by omega),Dz,Qz]
  refine(AFU Lm (Oa hlt) _).trans<|(ABP _).trans ?_
  obtain⟨g,hg⟩:=GX L[i]
  rw[hg,Q7]
  refine OZ _ |>.trans ?_
  refine(AB (OU _ _ _) _).trans ?_
  rw[wrap_i64 (by omega) (by omega)]
  refine(AB (b_gtr _ _ _) _).trans ?_
  rw[decide_eq_false (by omega),DU,Q8]
  refine AFW _ |>.trans ?_
  refine(Nr (by omega) _).trans ?_
  rw[Q9]
  refine(Nr (b:=1) (by omega) _).trans ?_
  exact ih (i+1) (acc+L[i].2.length) (by omega) (by omega)
theorem ABT (fs:Fl) (L:List (Fl×List UInt8)) (hL:L.length<2147483648) (f:Fl) (hN:(flat L).length<2147483648) (h0:0<(flat L).length):
 Cl 135 [.lst 68 f (parts L),.lst 5 fs []] []=some (bL .own (flat L),[]):=by
 have hL0:0<L.length:=by
  cases L with
  |nil=>cases h0
  |cons=>simp
 have lp:(parts L).length=L.length:=by simp[parts]
 rw[AA3,VY,VZ]
 refine(ZC KD _).trans ?_
 rw[lp]
 refine(AB (b_eql _ _ _) _).trans ?_
 rw[decide_eq_false (by omega),DU,Va]
 refine(ZC KD _).trans ?_
 rw[lp]
 refine(AB (b_eql _ _ _) _).trans ?_
 by_cases h1:L.length=1
 ·rw[decide_eq_true (by omega),Dz,Vb]
  match L,h1 with
  |[p],_=>
   refine(AD5 (i:=0) (v:=part p) Lm rfl _).trans<|(ABP _).trans ?_
   obtain⟨g,hg⟩:=GX p
   have e:flat [p]=p.2:=by simp[flat]
   rw[e]at hN h0⊢
   rw[hg]
   have a:=AFX (f:= .nil) (h:=[]) (l:=[]) (m:=p.2) (g:=g) (Or.inr rfl) (by simp;omega) (fun _=>by cases hp:p.2 with|nil=>rw[hp]at h0;simp at h0|cons=>rfl)
   refine(AB a _).trans ?_
   refine(AB (show DZ [] (bL .own ([]++p.2))=some (.win 0 [] 0 p.2.length 5,[.row 5 (bytesOf p.2)])by simp[DZ,bL,Ag]) _).trans ?_
   have c:Ae [V.row 5 (bytesOf p.2)] (.win 0 [] 0 p.2.length 5)=some (bytesOf p.2):=by
    simp[Ae,rd,V.at,V.items,Ag]
    rw[List.take_of_length_le (by simp[Ag])]
   simp[Nl,c,Bo,EH,bL,Nat.ble,Nat.blt,Nat.ble_eq]
   exact List.ne_nil_of_length_pos h0
 ·rw[decide_eq_false (by omega),DU,Vd,Ve]
  refine(ZC Ll _).trans ?_
  refine(AB (b_gtr _ _ _) _).trans ?_
  simp only[jn,List.length_nil]
  rw[decide_eq_false (by omega),DU,Qy]
  refine(ZC KD _).trans ?_
  rw[lp]
  exact ABS fs L hL hL0 f hN h0 L.length 0 0 (by omega) (by simp)
end
section
open Go AM
def UY (n:Nat):Nat:=(120-n%64)%64
def lb (n i:Nat):UInt8:=UInt8.ofNat (n/2^(56-8*i)%256)
def L6 (n:Nat):Nat→Nat→List UInt8
 |0,_=>[]
 |k+1,i=>lb n i::L6 n k (i+1)
def ZG (l:List UInt8):List UInt8:=(l++[128])++List.replicate (UY (l.length+1)) 0++L6 (8*l.length) 8 0
def blocks:Nat→List Nat→List UInt8→List Nat
 |0,h,_=>h
 |n+1,h,p=>blocks n (Rq h (p.take 64)) (p.drop 64)
def dg (st:List Nat) (i:Nat):UInt8:=UInt8.ofNat (st.getD (i/4) 0/2^(24-8*(i%4))%256)
def JZ (st:List Nat):Nat→Nat→List UInt8→List UInt8
 |0,_,w=>w
 |n+1,i,w=>JZ st n (i+1) (w.set i (dg st i))
def Fb:List Nat:=(match OE with|V.agg _ l=>l|_=>[]).map fun v=>match v with|V.int _ n=>n.toNat|_=>0
def AFY (l:List UInt8):List Nat:=blocks ((ZG l).length/64) Fb (ZG l)
def Vy (l:List UInt8):List UInt8:=JZ (AFY l) 32 0 (List.replicate 32 0)
def Aw (l:List UInt8):V:= .agg 54 (bytesOf l)
theorem ABU:OE=A8 Fb:=by kernel_rfl
theorem AFZ:Fb.length=8:=by kernel_rfl
theorem AFa:B32 Fb:=by
 have h:Fb.all (fun x=>decide (x<4294967296))=true:=by kernel_rfl
 intro x hx
 have:=List.all_eq_true.1 h x hx
 exact of_decide_eq_true this
theorem Ry {h:List Nat} (p:List UInt8) (bh:B32 h) (hh:h.length=8):B32 (Rq h p)∧(Rq h p).length=8:=Vx _ _ _ bh hh
theorem Ob (st:List Nat):∀(n i:Nat) (w:List UInt8),(JZ st n i w).length=w.length
 |0,_,_=>rfl
 |n+1,i,w=>by rw[JZ,Ob st n];simp
theorem KI (l:List UInt8):(Vy l).length=32:=by rw[Vy,Ob];rfl
theorem XG (l:List UInt8) (i:Nat) (x:UInt8):(bytesOf l).set i (.int .u8 (x.toNat:Int))=bytesOf (l.set i x):=by
 simp[bytesOf,List.map_set]
theorem AFb (x:Nat) (hx:x<256):(V.int .u8 (x:Int))= .int .u8 ((UInt8.ofNat x).toNat:Int):=by
 simp[Nat.mod_eq_of_lt hx]
theorem Ja (n:Nat):∀l:List UInt8,Ac n (bytesOf l)=true
 |[]=>rfl
 |x::l=>by simp only[bytesOf,List.map_cons,Ac];rw[show List.map _ l=bytesOf l from rfl,Ja n l];rfl
theorem L8 (n:Nat):∀l:List UInt8,CQ n (bytesOf l)=true
 |[]=>rfl
 |x::l=>by simp only[bytesOf,List.map_cons,CQ];rw[show List.map _ l=bytesOf l from rfl,L8 n l];rfl
theorem Jb (h:List V):∀l:List UInt8,Bh h (bytesOf l)=bytesOf l
 |[]=>rfl
 |x::l=>by simp only[bytesOf,List.map_cons,Bh];rw[show List.map _ l=bytesOf l from rfl,Jb h l];rfl
theorem Jc (h:List V):∀l:List UInt8,AA h (bytesOf l)=bytesOf l
 |[]=>rfl
 |x::l=>by simp only[bytesOf,List.map_cons,AA];rw[show List.map _ l=bytesOf l from rfl,Jc h l];rfl
theorem Oc (h:List V):∀l:List Nat,AA h (Ib l)=Ib l
 |[]=>rfl
 |x::l=>by simp only[Ib,List.map_cons,AA];rw[show List.map vw l=Ib l from rfl,Oc h l];rfl
theorem ZH (h:List V) (l:List Nat):V.reify h (A8 l)=A8 l:=by simp only[A8,V.reify,Oc]
theorem Rz (h:List V) (f:Fl) (l:List UInt8):∃g,V.reify h (bL f l)=bL g l:=by
 cases f<;>simp only[bL,V.reify,Jc]<;>exact⟨_,rfl⟩
theorem P5 (n:Nat) (h:List V) (l:List UInt8):AV n h (Aw l)=some (Aw l,h.take n):=by
 simp only[AV,Aw,V.unmut,Jb,V.norm,EH,V.clean,Bo,V.over,L8,Bool.and_self,if_true]
theorem ABV:zero P 55=Aw (List.replicate 32 0):=by rw[AFL];rfl
theorem Vz (l:List UInt8):BK P 55 (Aw l)=true:=by simp[BK,ADu,Aw]
theorem V3 (n:Nat) (l:List UInt8):(Aw l).under n=true:=by simp only[Aw,V.under];exact Ja _ _
theorem AFc (l:List Nat):BK P 184 (A8 l)=true:=by simp[BK,JX,A8]
theorem AFd (n:Nat) (l:List Nat):(A8 l).under n=true:=by simp only[A8,V.under];exact D9 _ _
theorem AHw {id i:Nat} (hi:i<32):Aa P 55 (.ref id [] 55) (.int .i64 (i:Int))=some (.ref id [i] 5):=by
 have:inside (i:Int) 32=true:=by simp[inside];omega
 simp[Aa,ADu,this]
theorem AHx {h:List V} {id i x:Nat} {l:List UInt8} (hh:h[id]?=some (Aw l)) (hi:i<l.length) (hx:x<256):Hz P h 5 (.ref id [i] 5) (.int .u8 (x:Int))=some (h.set id (Aw (l.set i (UInt8.ofNat x)))):=by
 rw[KF hh (OV hi) (Pz _) rfl,AFb x hx,XG];rfl
theorem AD6 {h:List V} {st:List Nat} {w:List UInt8} {i:Nat} (hs:h[1]?=some (A8 st)) (hst:st.length=8) (hw:h[2]?=some (Aw w)) (lw:w.length=32) (hi:i<32) (K:List V→Option (V×List V)):
 Kz (.ref 1 [] 184) (.ref 2 [] 55) (.int .i64 (i:Int)) h K=K (h.set 2 (Aw (w.set i (dg st i)))):=by
 unfold Kz
 refine(AB (Y0 _ _ _ (by omega)) _).trans ?_
 rw[show(i:Int).tdiv 4=((i/4:Nat):Int)by rfl,wrap_i64 (by omega) (by omega)]
 refine(at8 hs hst (i/4) (by omega) _).trans ?_
 refine(AB (Rj _ _ _ (by omega)) _).trans ?_
 rw[show(i:Int).tmod 4=((i%4:Nat):Int)by rfl]
 refine(ABJ (a:=8) (by omega) _).trans<|(Nq (a:=24) (by omega) (by omega) _).trans ?_
 refine(AB (CV Pm ..) _).trans ?_
 rw[wrap_u64 (by omega) (by omega)]
 refine(AB (KG _ (by omega)) _).trans ?_
 refine(AB (CV OT ..) _).trans ?_
 rw[FY]
 refine(AB (AHw hi) _).trans ?_
 exact AB (AHx hw (by omega) (Nat.mod_lt _ (by decide))) _
theorem AFe {st:List Nat} (hst:st.length=8) (z:List UInt8):∀(n i:Nat) (w:List UInt8),i+n=32→w.length=32→
 J4 (.ref 0 [] 55) (.ref 1 [] 184) (.ref 2 [] 55) (.int .i64 (i:Int)) [Aw z,A8 st,Aw w]=some (Aw (JZ st n i w),[]):=by
 intro n
 induction n with
 |zero=>
  intro i w hi hw
  rw[LC,Ky,Rx (by omega),DU,Qx]
  refine(AB (DJ (v:=Aw w) (FH rfl)) _).trans ?_
  refine(AB (EY (w:=Aw z) rfl (Vz _) (V3 _ _)) _).trans ?_
  refine(AB (DJ (v:=Aw w) (FH rfl)) _).trans ?_
  exact P5 _ _ _
 |succ n ih=>
  intro i w hi hw
  rw[LC,Ky,Rw (by omega),Dz,Qv,AD6 rfl hst rfl hw (by omega),Qw]
  refine(Nr (b:=1) (by omega) _).trans ?_
  exact ih (i+1) _ (by omega) (by simp[hw])
theorem AFf:∀(n:Nat) (f:Fl) (p:List UInt8) (st:List Nat),p.length=64*n→p.length<2147483648→B32 st→st.length=8→
 J3 (.ref 0 [] 55) (bL f p) (.ref 1 [] 184) [Aw (List.replicate 32 0),A8 st]=some (Aw (JZ (blocks n st p) 32 0 (List.replicate 32 0)),[]):=by
 intro n
 induction n with
 |zero=>
  intro f p st hp hlt bs hst
  rw[LD,Kw]
  refine OZ _ |>.trans ?_
  refine(AB (b_gtr _ _ _) _).trans ?_
  rw[decide_eq_false (by omega),DU,Qs,Qu,ABV]
  exact AFe hst _ 32 0 _ rfl rfl
 |succ n ih=>
  intro f p st hp hlt bs hst
  rw[LD,Kw]
  refine OZ _ |>.trans ?_
  refine(AB (b_gtr _ _ _) _).trans ?_
  rw[decide_eq_true (by omega),Dz,Qq]
  refine(AB (DJ (v:=A8 st) (FH rfl)) _).trans ?_
  have sl:Js P 68 (V.weak (bL f p)) none (some (.int .i64 64)) none=some (bL f.cut (p.take 64)):=by
   have:=AFT (f:=f) (t:=5) (xs:=bytesOf p) Gw (a:=0) (b:=64) (by omega) (by rw[Ag];omega)
   rw[List.drop_zero,bytesOf_take]at this
   rw[bL,bL,←this]
   obtain⟨g,hg⟩:=Ic (e:=5) (f:=f) (xs:=bytesOf p)
   rw[hg]
   have e1:(64:Int)≤p.length:=by omega
   simp[Js,Gw,BD,Ag,e1]
  refine(AB sl _).trans ?_
  obtain⟨g,hg⟩:=Rz [Aw (List.replicate 32 0),A8 st] f.cut (p.take 64)
  have e:AA [Aw (List.replicate 32 0),A8 st] [A8 st,bL f.cut (p.take 64)]=[A8 st,bL g (p.take 64)]:=by
   simp only[AA,ZH,hg]
  rw[e]
  refine(AB (ABO hst bs (by rw[List.length_take];omega) g) _).trans ?_
  refine(AB (EY (w:=A8 st) rfl (AFc _) (AFd _ _)) _).trans ?_
  rw[Qr]
  have sl2:Js P 68 (bL f p) (some (.int .i64 64)) none none=some (bL f.cut (p.drop 64)):=by
   have e1:(64:Int)≤p.length:=by omega
   simp[Js,bL,Gw,BD,Ag,e1,bytesOf_drop]
   rw[List.take_of_length_le (by rw[Ag];omega),bytesOf_drop]
  refine(AB sl2 _).trans ?_
  exact ih f.cut (p.drop 64) (Rq st (p.take 64)) (by rw[List.length_drop];omega) (by rw[List.length_drop];omega) (Ry _ bs hst).1 (Ry _ bs hst).2
theorem AFg (N:Nat) (hN:N<2147483648):∀(n i:Nat) (p:List UInt8),i+n=8→(p.length+n)%64=0→p.length<2147483000→
 Jz (.ref 0 [] 55) (bL .own p) (.int .u64 ((8*N:Nat):Int)) (.int .i64 (i:Int)) [Aw (List.replicate 32 0)]=
  some (Aw (JZ (blocks ((p++L6 (8*N) n i).length/64) Fb (p++L6 (8*N) n i)) 32 0 (List.replicate 32 0)),[]):=by
 intro n
 induction n with
 |zero=>
  intro i p hi hp hl
  rw[LG,PZ,Rx (by omega),DU,Qp,ABU]
  refine(AB KE _).trans ?_
  refine(AB (EY (w:=zero P 184) rfl (AFc _) (AFd _ _)) _).trans ?_
  simp only[L6,List.append_nil]
  exact AFf (p.length/64) .own p Fb (by omega) (by omega) AFa AFZ
 |succ n ih=>
  intro i p hi hp hl
  rw[LG,PZ,Rw (by omega),Dz,VT,VU]
  refine(ABJ (a:=8) (by omega) _).trans<|(Nq (a:=56) (by omega) (by omega) _).trans ?_
  refine(AB (CV Pm ..) _).trans ?_
  rw[wrap_u64 (by omega) (by omega)]
  have hs:AO .shr (.int .u64 ((8*N:Nat):Int)) (.int .u64 ((56-8*i:Nat):Int))=some (.int .u64 ((8*N/2^(56-8*i):Nat):Int)):=by
   rw[Rk _ _ _ _ (by omega)]
   have:min (((56-8*i:Nat):Int)).toNat (IntKind.u64).bits=56-8*i:=by simp[IntKind.bits];omega
   rw[this,Ls]
  refine(AB hs _).trans ?_
  refine(AB (CV OT ..) _).trans ?_
  rw[FY]
  refine(app1 (Or.inl rfl) (by omega) _ (Nat.mod_lt _ (by decide)) _).trans ?_
  rw[Qo]
  refine(Nr (b:=1) (by omega) _).trans ?_
  have:=ih (i+1) (p++[lb (8*N) i]) (by omega) (by simp;omega) (by simp;omega)
  rw[List.append_assoc,List.singleton_append]at this
  exact this
theorem AFh (N:Nat) (hN:N<2147483648):∀(n:Nat) (p:List UInt8),UY p.length=n→p.length+n<2147482000→
 Jy (.ref 0 [] 55) (bL .own p) (.int .u64 ((8*N:Nat):Int)) [Aw (List.replicate 32 0)]=
  some (Aw (JZ (blocks ((p++List.replicate n 0++L6 (8*N) 8 0).length/64) Fb (p++List.replicate n 0++L6 (8*N) 8 0)) 32 0 (List.replicate 32 0)),[]):=by
 intro n
 induction n with
 |zero=>
  intro p hp hl
  rw[LH,PY]
  refine OZ _ |>.trans ?_
  refine(AB (Rj _ _ _ (by omega)) _).trans ?_
  rw[show(p.length:Int).tmod 64=((p.length%64:Nat):Int)by rfl]
  refine(AB (b_neq _ _ _) _).trans ?_
  simp only[UY]at hp
  rw[decide_eq_false (by omega),DU,VS,List.replicate_zero,List.append_nil]
  exact AFg N hN 8 0 p rfl (by omega) (by omega)
 |succ n ih=>
  intro p hp hl
  rw[LH,PY]
  refine OZ _ |>.trans ?_
  refine(AB (Rj _ _ _ (by omega)) _).trans ?_
  rw[show(p.length:Int).tmod 64=((p.length%64:Nat):Int)by rfl]
  refine(AB (b_neq _ _ _) _).trans ?_
  simp only[UY]at hp
  rw[decide_eq_true (by omega),Dz,VQ]
  refine(app1 (Or.inl rfl) (by omega) 0 (by omega) _).trans ?_
  have:=ih (p++[0]) (by simp only[UY,List.length_append,List.length_cons,List.length_nil];omega) (by simp;omega)
  rw[List.append_assoc p [0],List.singleton_append]at this
  exact this
theorem UZ (h:List V) (p:Fl×List UInt8):∃g,V.reify h (part p)=part (g,p.2):=Rz h p.1 p.2
theorem Ie (h:List V):∀L:List (Fl×List UInt8),∃L',AA h (parts L)=parts L'∧flat L'=flat L∧L'.length=L.length
 |[]=>⟨[],rfl,rfl,rfl⟩
 |p::L=>by
  obtain⟨L',e1,e2,e3⟩:=Ie h L
  obtain⟨g,hg⟩:=UZ h p
  refine⟨(g,p.2)::L',?_,?_,by simp[e3]⟩
  ·simp only[parts,List.map_cons,AA,hg];exact congrArg _ e1
  ·rw[H8,H8,e2]
theorem Jd (h:List V) (f:Fl) (L:List (Fl×List UInt8)):∃f' L',V.reify h (.lst 68 f (parts L))= .lst 68 f' (parts L')∧flat L'=flat L∧L'.length=L.length:=by
 obtain⟨L',e1,e2,e3⟩:=Ie h L
 cases f
 case lent=>exact⟨.lent,L',by simp only[V.reify,e1],e2,e3⟩
 all_goals exact⟨.sh,L,rfl,rfl,rfl⟩
theorem V4 (L:List (Fl×List UInt8)) (hL:L.length<2147483648) (f:Fl) (hN:(flat L).length<2147480000) (h0:0<(flat L).length):
 Cl 117 [.lst 68 f (parts L)] []=some (Aw (Vy (flat L)),[]):=by
 obtain⟨f',L',e1,e2,e3⟩:=Jd [Aw (List.replicate 32 0)] f L
 have er:AA [Aw (List.replicate 32 0)] [.lst 68 f (parts L),.lst 5 .nil []]=[.lst 68 f' (parts L'),.lst 5 .sh []]:=by
  simp only[AA,e1];rfl
 rw[AAv,VL,VN,ABV]
 simp only[List.nil_append]
 rw[er]
 refine(AB (ABT .sh L' (by omega) f' (by rw[e2];omega) (by rw[e2];exact h0)) _).trans ?_
 rw[e2,VO]
 refine OZ _ |>.trans ?_
 refine(AB (CV Pj ..) _).trans ?_
 rw[wrap_u64 (by omega) (by omega)]
 refine(AB (Ri _ _ _) _).trans ?_
 rw[wrap_u64 (by omega) (by omega),show((flat L).length:Int)*8=((8*(flat L).length:Nat):Int)by omega,VP]
 refine(app1 (Or.inl rfl) (by omega) 128 (by omega) _).trans ?_
 have z:UY ((flat L).length+1)<64:=Nat.mod_lt _ (by decide)
 exact AFh (flat L).length (by omega) (UY ((flat L).length+1)) (flat L++[128]) (by simp) (by simp;omega)
end
section
open Go AM
end
section
open Go AM
def uw (n:Nat):V:= .int .u64 (n:Int)
def uws (l:List Nat):List V:=l.map uw
theorem AHy {B:Type} {k:IntKind} {a b:Int} (h:b≤a) (K:V→Option B):(AO .geq (.int k a) (.int k b)).bind K=K (.bool true):=by
 rw[b_geq,Option.bind_some,decide_eq_true h]
theorem AHz {B:Type} {k:IntKind} {a b:Int} (h:¬b≤a) (K:V→Option B):(AO .geq (.int k a) (.int k b)).bind K=K (.bool false):=by
 rw[b_geq,Option.bind_some,decide_eq_false h]
end
section
open Go AM
def box (st:List Nat):List V:=[.row 93 (uws st)]
end
section
open Go AM
end
section
open Go AM
theorem Ua (l:List UInt8):Dj (bytesOf l)=some l:=by
 induction l with
 |nil=>rfl
 |cons x l ih=>
  have:bytesOf (x::l)= .int .u8 (x.toNat:Int)::bytesOf l:=rfl
  rw[this]
  simp only[Dj,AM.byteOf,ih]
  simp
theorem cv8 {B:Type} {h:List V} {x:Nat} (K:V→Option B):(conv P h 93 5 (.int .u64 (x:Int))).bind K=K (.int .u8 ((x%256:Nat):Int)):=by
 refine(AB (CV OT ..) _).trans ?_
 rw[FY]
theorem ACs {B:Type} {h:List V} {s:List UInt8} (hs:s.length≤2147483648) (K:V→Option B):(conv P h 9 68 (.str s)).bind K=K (bL .own s):=
 AB (by simp[conv,Ll,OT,C9,hs,bL]) K
end
section
open Go AM
end
section
open Go AM
def Je:Nat→Nat→List UInt8
 |0,_=>[]
 |f+1,n=>if n<128 then[UInt8.ofNat n]else UInt8.ofNat (n%128+128)::Je f (n/128)
def Cj (n:Nat):List UInt8:=Je 10 n
theorem BU:∀f n,(Je f n).length≤f
 |0,_=>by simp[Je]
 |f+1,n=>by
  rw[Je];split
  ·simp
  ·have:=BU f (n/128);simp;omega
def BJ (f:Fl) (l:List UInt8):V:= .agg 124 [bL f l]
def D6 (id:Nat):V:= .ref id [] 125
abbrev OK (f:Fl):Prop:=f= .own∨f= .nil
theorem AH0 (a:Nat) (ha:a<256):AO .or (.int .u8 (a:Int)) (.int .u8 128)=some (.int .u8 ((a%128+128:Nat):Int)):=by
 have h:∀x:Fin 256,x.val|||128=x.val%128+128:=by decide
 have e:=h ⟨a,ha⟩
 rw[show(128:Int)=((128:Nat):Int)from rfl,AFN,BR,BR,show(BitVec.ofNat (IntKind.u8).bits a|||BitVec.ofNat (IntKind.u8).bits 128).toNat=a|||128 from ACq (w:=8) (by omega) (by omega),e,wrap_u8 (by omega) (by omega)]
theorem SA {B:Type} {id:Nat} (K:V→Option B):(Bz (D6 id)).bind K=K (D6 id):=rfl
theorem ZI {B:Type} {id:Nat} (K:V→Option B):(Dh P 125 0 (D6 id)).bind K=K (.ref id [0] 68):=
 AB (UU (P:=P) (t:=125) (f:=0) Yx rfl (by rw[ADv];decide) id []) K
def wk:Fl→Fl
 | .own=> .sh
 |f=>f
theorem V5 (f:Fl) (l:List UInt8):(bL f l).weak=bL (wk f) l:=by cases f<;>rfl
theorem V6 {B:Type} {h:List V} {id:Nat} {f:Fl} {l:List UInt8} (hh:h[id]?=some (BJ f l)) (K:V×List V→Option B):
 (BI h 68 (.ref id [0] 68)).bind K=K (bL f l,h.set id (BJ (wk f) l)):=by
 refine AB ?_ K
 have r:rd h id [0]=some (bL f l):=Po hh rfl
 simp[BI,r,wr,hh,BJ,V.upd,V5]
theorem tyB (f:Fl) (l:List UInt8):BK P 68 (bL f l)=true:=by simp[BK,Gw,bL]
theorem unB (n:Nat) {f:Fl} (hf:f≠ .lent) (l:List UInt8):(bL f l).under n=true:=by cases f<;>first|rfl|exact absurd rfl hf
theorem ZJ {B:Type} {h:List V} {id:Nat} {f:Fl} {l m:List UInt8} (hh:h[id]?=some (BJ f l)) (K:List V→Option B):
 (Hz P h 68 (.ref id [0] 68) (bL .own m)).bind K=K (h.set id (BJ .own m)):=by
 refine AB ?_ K
 exact KF hh rfl (tyB _ _) (unB _ (by intro h;cases h) _)
theorem Oe (h:List V):Cl 45 [] h=some (D6 h.length,h++[BJ .nil []]):=by
 rw[ADa,Yc,Yd]
 have b:YK P 125 []=some (BJ .nil []):=by simp[YK,Yx,ADw,Bj,BJ,bL,bytesOf]
 refine(AB b _).trans ?_
 have w:(BJ .nil []).weak=BJ .nil []:=rfl
 have c:(BK P 125 (BJ .nil [])&&V.under h.length (BJ .nil []))=true:=by simp[BK,Yx,BJ,V.under,Ac,bL]
 rw[w,if_pos c];rfl
theorem AFi {n:Nat} {h:List V}:(if(List.all [] V.okE)=true then AV n h (V.tup [])else none)=some (.tup [],h.take n):=rfl
theorem Ig {h:List V} {id:Nat} {a b:V}:(h.set id a).set id b=h.set id b:=by simp
theorem AD7 {id:Nat} (h0:List V) (hid:id<h0.length):∀(k n:Nat) (f:Fl) (l:List UInt8) (h:List V),h=h0.set id (BJ f l)→OK f→n<128^k→n<18446744073709551616→0<k→l.length+k≤2147483648→
 PV (D6 id) (.int .u64 (n:Int)) h0.length h=some (.tup [],h0.set id (BJ .own (l++Je k n))):=by
 intro k
 induction k with
 |zero=>intro n f l h _ _ _ _ h0 _;omega
 |succ k ih=>
  intro n f l h eh hf hn h64 _ hl
  have hh:h[id]?=some (BJ f l):=by rw[eh,List.getElem?_set];simp[hid]
  have hw:(h.set id (BJ (wk f) l))[id]?=some (BJ (wk f) l):=Vt _ hh
  rw[XD,Ye]
  by_cases hb:n<128
  ·refine(AHz (by omega) _).trans ?_
   rw[DU,Yh]
   refine(SA _).trans<|(ZI _).trans<|(V6 hh _).trans ?_
   refine(cv8 _).trans<|(app1 hf (by omega) _ (Nat.mod_lt _ (by decide)) _).trans<|(SA _).trans<|(ZI _).trans<|(ZJ hw _).trans ?_
   rw[AFi,Ig,Nat.mod_eq_of_lt (by omega),Je,if_pos hb,eh,Ig,List.take_of_length_le (by simp)]
  ·refine(AHy (by omega) _).trans ?_
   rw[Dz,Yf]
   refine(SA _).trans<|(ZI _).trans<|(V6 hh _).trans ?_
   refine(cv8 _).trans<|(AB (AH0 _ (Nat.mod_lt _ (by decide))) _).trans<|(app1 hf (by omega) _ (by omega) _).trans<|(SA _).trans<|(ZI _).trans<|(ZJ hw _).trans ?_
   rw[Yg]
   have hs:AO .shr (.int .u64 (n:Int)) (.int .u64 7)=some (.int .u64 ((n/128:Nat):Int)):=by
    rw[Rk _ _ _ _ (by omega)]
    have:min ((7:Int)).toNat (IntKind.u64).bits=7:=by decide
    rw[this];exact congrArg _ (congrArg _ (Ls n 7))
   refine(AB hs _).trans ?_
   rw[Ig,show n%256%128=n%128 by omega,Je,if_neg hb]
   have k0:0<k:=by
    rcases Nat.eq_zero_or_pos k with h|h
    ·subst h;simp at hn;omega
    ·exact h
   have:=ih (n/128) .own (l++[UInt8.ofNat (n%128+128)]) (h.set id (BJ .own (l++[UInt8.ofNat (n%128+128)]))) (by rw[eh,Ig]) (Or.inl rfl) (by rw[Nat.pow_succ]at hn;omega) (by omega) k0 (by simp;omega)
   rw[List.append_assoc,List.singleton_append]at this
   exact this
theorem JF {h:List V} {id n:Nat} {f:Fl} {l:List UInt8} (hh:h[id]?=some (BJ f l)) (hf:OK f) (hn:n<18446744073709551616) (hl:l.length+10≤2147483648):
 Cl 46 [D6 id,.int .u64 (n:Int)] h=some (.tup [],h.set id (BJ .own (l++Cj n))):=by
 rw[ADb]
 exact AD7 h (Pq hh) 10 n f l h (AA7 hh).symm hf (Nat.lt_of_lt_of_le hn (by decide)) hn (by omega) hl
theorem AFj (id:Nat) (x:Int) (k:IntKind):AU [D6 id,.int k x]=[D6 id,.int k x]:=rfl
theorem L9 {h:List V} {id:Nat} {f:Fl} {l:List UInt8} (hh:h[id]?=some (BJ f l)):Cl 50 [D6 id] h=some (.str l,h):=by
 rw[ADc,Yi,Yj]
 refine(SA _).trans<|(ZI _).trans ?_
 have r:rd h id [0]=some (bL f l):=Po hh rfl
 refine(AB (show A7 h 68 (.ref id [0] 68)=some (bL (wk f) l)by simp[A7,DJ r,V5]) _).trans ?_
 refine(AB (show conv P h 68 9 (bL (wk f) l)=some (.str l)by simp[conv,Yw,Ll,OT,bL,Ae,Ua]) _).trans ?_
 rw[ABB,List.take_of_length_le (Nat.le_refl _)]
def V7 (n:Int):Nat:=if 0≤n then(2*n).toNat else(-2*n-1).toNat
theorem XH {h:List V} {id:Nat} {n:Int} {f:Fl} {l:List UInt8} (hh:h[id]?=some (BJ f l)) (hf:OK f) (h1: -9223372036854775808≤n) (h2:n<9223372036854775808) (hl:l.length+10≤2147483648):
 Cl 97 [D6 id,.int .i64 n] h=some (.tup [],h.set id (BJ .own (l++Cj (V7 n)))):=by
 rw[ADs,Yt]
 refine(AB (CV Pj ..) _).trans ?_
 refine(AB (ACn _ _ _ _ (by omega)) _).trans ?_
 refine(AB (Rk _ _ _ _ (by omega)) _).trans ?_
 have m1:min ((1:Int)).toNat (IntKind.u64).bits=1:=by decide
 have m63:min ((63:Int)).toNat (IntKind.i64).bits=63:=by decide
 rw[m1,m63]
 refine(AB (CV Pj ..) _).trans ?_
 have key:AO .xor (.int .u64 (IntKind.wrap .u64 (IntKind.wrap .u64 n*2^1))) (.int .u64 (IntKind.wrap .u64 (n.fdiv (2^63))))=some (.int .u64 ((V7 n:Nat):Int)):=by
  rw[EZ,EZ,EZ]
  by_cases hn:0≤n
  ·have e1:n%18446744073709551616*2^1%18446744073709551616=(((2*n).toNat:Nat):Int):=by omega
   have e2:n.fdiv (2^63)%18446744073709551616=((0:Nat):Int):=by
    rw[Int.fdiv_eq_ediv_of_nonneg _ (by decide)];omega
   rw[e1,e2,u64_xor (by omega) (by omega),Nat.xor_zero,V7,if_pos hn]
  ·have e1:n%18446744073709551616*2^1%18446744073709551616=((18446744073709551615-(-2*n-1).toNat:Nat):Int):=by omega
   have e2:n.fdiv (2^63)%18446744073709551616=((18446744073709551615:Nat):Int):=by
    rw[Int.fdiv_eq_ediv_of_nonneg _ (by decide)];omega
   have hb:(-2*n-1).toNat<18446744073709551616:=by omega
   rw[e1,e2,u64_xor (by omega) (by omega),V7,if_neg hn]
   generalize (-2*n-1).toNat=m at hb
   have hx:∀x:Nat,x<18446744073709551616→x ^^^ 18446744073709551615=18446744073709551615-x:=by
    intro x hx
    apply Nat.eq_of_testBit_eq
    intro i
    rw[show 18446744073709551615-x=2^64-(x+1)by omega,Nat.testBit_two_pow_sub_succ (n:=64) hx i,Nat.testBit_xor,show(18446744073709551615:Nat)=2^64-1 by rfl,Nat.testBit_two_pow_sub_one]
    by_cases hi:i<64
    ·simp[hi]
    ·have:x.testBit i=false:=Nat.testBit_lt_two_pow (Nat.lt_of_lt_of_le hx (Nat.pow_le_pow_right (n:=2) (i:=64) (by decide) (by omega)))
     simp[hi,this]
   rw[hx _ (by omega)]
   congr 3;omega
 refine(AB key _).trans ?_
 rw[AFj]
 have hu:V7 n<18446744073709551616:=by simp only[V7];split<;>omega
 refine(AB (JF hh hf hu hl) _).trans ?_
 rw[AFi,List.take_of_length_le (by simp)]
end
end Go.Proofs.YtiegkempfolgcaaGreatDoor
