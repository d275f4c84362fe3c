/-
  Part of the proof of a statement about the given program: an abstract machine over its code, the simulation, its functions' equations, what they compute.
-/
import Derived.Test.YtkelgdjhpgefnaaGreatDoorMg4
import Derived.Test.YtkelgdjhpgefnaaGreatDoorMg7
import Derived.Test.YtkelgdjhpgefnaaGreatDoorMg8
set_option linter.unusedVariables false
set_option linter.unusedSimpArgs false
set_option linter.unusedSectionVars false
set_option maxRecDepth 100000
noncomputable section
namespace Go.Proofs.YtkelgdjhpgefnaaGreatDoor
section
open Go AM
end
section
open Go AM
section
variable {P:Program}
theorem Di {h:List V} {t:TypeId} {id:Nat} {p:List Nat} {v:V} (hr:rd h id p=some v):BI h t (.ref id p t)=some v:=by simp[BI,hr]
theorem JS {h:List V} {t:TypeId} {v:V}:BI h t (.rop t v)=some v:=by simp[BI]
theorem Gi {h:List V} {id:Nat} {v:V} (hv:h[id]?=some v):rd h id []=some v:=by simp[rd,hv,V.at]
theorem VS {h:List V} {id i:Nat} {u:TypeId} {fs:List V} {v:V} (hv:h[id]?=some (.agg u fs)) (hi:fs[i]?=some v):rd h id [i]=some v:=by simp[rd,hv,V.at,hi]
theorem Fg {h:List V} {t:TypeId} {id:Nat} {v w:V} (hw:h[id]?=some w) (ht:CO P t v=true) (hu:v.under (id+1)=true):Gz P h t (.ref id [] t) v=some (h.set id v):=by
 simp[Gz,ht,hu,wr,hw,V.upd]
theorem NV {h:List V} {t u:TypeId} {id i:Nat} {fs:List V} {v x:V} (hw:h[id]?=some (.agg u fs)) (hi:fs[i]?=some x) (ht:CO P t v=true) (hu:v.under (id+1)=true):Gz P h t (.ref id [i] t) v=some (h.set id (.agg u (fs.set i v))):=by
 simp[Gz,ht,hu,wr,hw,V.upd,hi]
end
theorem VT {α:Type} {h:List α} {i:Nat} {x:α} (hx:h[i]?=some x):i<h.length:=by
 rcases Nat.lt_or_ge i h.length with h'|h'
 ·exact h'
 ·rw[List.getElem?_eq_none h']at hx;cases hx
theorem take_set {α:Type} (h z:List α) (i:Nat) (y:α):(h.set i y++z).take h.length=h.set i y:=by
 have:(h.set i y).length=h.length:=by simp
 rw[←this];simp
theorem VU {R:Type} {f:FuncId} {cs vs h:List V} (k:V→List V→Option R) (he:EQ.ext f=false) (hp:EQ.pure f=false) (hs:(EQ.seq f).1=0:=by kernel_rfl):CX P EQ W (.clo f cs) vs h k=(Cl f (Ag (vs++cs)) h).bind fun r=>k r.1 r.2:=by
 simp only[CX,GI,he,hp,hs,ne_eq,not_true_eq_false,Bool.false_eq_true,if_false,if_true];rfl
end
section
open Go AM
theorem X3 (n:Nat) (h:List V) (k:IntKind) (b:Int):Bh n h (.int k b)=some (.int k b,h.take n):=rfl
end
section
open Go AM
def vw (n:Nat):V:= .int .u32 (n:Int)
def G9 (l:List Nat):List V:=l.map vw
def A8 (l:List Nat):V:= .agg 200 (G9 l)
def LQ (l:List Nat):V:= .agg 210 (G9 l)
def B32 (l:List Nat):Prop:=∀x∈l,x<4294967296
def EK (x n:Nat):Nat:=x*2^(32-n)%4294967296|||x/2^n
theorem Bz {x n:Nat} (hx:x<4294967296):EK x n<4294967296:=
 Nat.or_lt_two_pow (n:=32) (Nat.mod_lt _ (by decide)) (Nat.lt_of_le_of_lt (Nat.div_le_self _ _) hx)
theorem PD (n:Int):IntKind.wrap .u64 n=n%18446744073709551616:=by simp[IntKind.wrap,IntKind.bits,IntKind.signed]
theorem PE (a n:Nat):Int.fdiv (a:Int) (2^n)=((a/2^n:Nat):Int):=by
 have e:(2:Int)^n=((2^n:Nat):Int):=by push_cast;rfl
 rw[e,Int.fdiv_eq_ediv_of_nonneg _ (Int.natCast_nonneg _)];rfl
theorem JU {a:Nat} (n:Nat) (hn:n≤32):AO .shr (.int .u32 (a:Int)) (.int .u64 (n:Int))=some (.int .u32 ((a/2^n:Nat):Int)):=by
 rw[ZM _ _ _ _ (by omega)]
 have:min ((n:Int)).toNat (IntKind.u32).bits=n:=by simp[IntKind.bits];omega
 rw[this,PE]
theorem JV {a:Nat} (n:Nat) (hn:n≤32):AO .shl (.int .u32 (a:Int)) (.int .u64 (n:Int))=some (.int .u32 ((a*2^n%4294967296:Nat):Int)):=by
 rw[ABA _ _ _ _ (by omega)]
 have:min ((n:Int)).toNat (IntKind.u32).bits=n:=by simp[IntKind.bits];omega
 rw[this]
 have e:((a:Int)*2^n)=((a*2^n:Nat):Int):=by push_cast;rfl
 rw[e,G8]
theorem X4 (a b:Nat):AO .add (.int .u32 (a:Int)) (.int .u32 (b:Int))=some (.int .u32 (((a+b)%4294967296:Nat):Int)):=by
 rw[Ey,show(a:Int)+(b:Int)=((a+b:Nat):Int)by omega,G8]
theorem X5 {x:Nat} (hx:x<4294967296) (n:Nat) (h1:1≤n) (h2:n≤31):Cl 150 [.int .u32 (x:Int),.int .i64 (n:Int)] []=some (.int .u32 (EK x n:Int),[]):=by
 have key:Cl 160 [.int .u32 (x:Int),.int .i64 (-(n:Int))] []=some (.int .u32 (EK x n:Int),[]):=by
  rw[Xz]
  have w:IntKind.wrap .u64 (-(n:Int))=((18446744073709551616-n:Nat):Int):=by rw[PD];omega
  have m:(18446744073709551616-n)&&& 31=32-n:=by
   rw[show(31:Nat)=2^5-1 from rfl,Nat.and_two_pow_sub_one_eq_mod];omega
  simp only[SH,SI,SK,Dt NU,w,Option.bind_some]
  rw[show(31:Int)=((31:Nat):Int)from rfl,u64_and (by omega) (by omega),m,Option.bind_some,JV _ (by omega),Option.bind_some,Je,show(32:Int)-((32-n:Nat):Int)=(n:Int)by omega,wrap_u64 (by omega) (by omega),Option.bind_some,JU _ (by omega),Option.bind_some,
   u32_or (Nat.mod_lt _ (by decide)) (Nat.lt_of_le_of_lt (Nat.div_le_self _ _) hx),Option.bind_some,X3]
  rfl
 rw[Xy]
 have ng:un .neg (.int .i64 (n:Int))=some (.int .i64 (-(n:Int))):=by
  simp only[un];rw[show(0:Int)-(n:Int)= -(n:Int)by omega,wrap_i64 (by omega) (by omega)]
 have e:AP [] [V.int .u32 (x:Int),V.int .i64 (-(n:Int))]=[V.int .u32 (x:Int),V.int .i64 (-(n:Int))]:=rfl
 simp only[SE,SG,ng,Option.bind_some,e,key]
 rfl
theorem ABr {h:List V} {x:Nat} (hx:x<4294967296) (n:Nat) (h1:1≤n) (h2:n≤31):Cl 150 (AP h [.int .u32 (x:Int),.int .i64 (n:Int)]) []=some (.int .u32 (EK x n:Int),[]):=X5 hx n h1 h2
theorem Fh {l:List Nat} {i:Nat} (hi:i<l.length):(G9 l)[i]?=some (vw (l.getD i 0)):=by
 simp[G9,List.getElem?_map,List.getElem?_eq_getElem hi]
theorem B32.get {l:List Nat} (h:B32 l) (i:Nat):l.getD i 0<4294967296:=by
 rcases Nat.lt_or_ge i l.length with hi|hi
 ·rw[List.getD_eq_getElem?_getD,List.getElem?_eq_getElem hi];exact h _ (List.getElem_mem hi)
 ·rw[List.getD_eq_getElem?_getD,List.getElem?_eq_none hi];decide
theorem SL (l:List Nat) (i x:Nat):(G9 l).set i (vw x)=G9 (l.set i x):=by simp[G9,List.map_set]
theorem AAD {id i:Nat} (hi:i<64):AZ P 210 (.ref id [] 210) (.int .i64 (i:Int))=some (.ref id [i] 58):=by
 have:inside (i:Int) 64=true:=by simp[inside];omega
 simp[AZ,ZR,this]
theorem ix8 {id i:Nat} (hi:i<8):AZ P 200 (.ref id [] 200) (.int .i64 (i:Int))=some (.ref id [i] 58):=by
 have:inside (i:Int) 8=true:=by simp[inside];omega
 simp[AZ,Ip,this]
theorem ixK {i:Nat} (hi:i<64) {l:List Nat} (hl:l.length=64):AZ P 210 (.rop 210 (LQ l)) (.int .i64 (i:Int))=some (.rop 58 (vw (l.getD i 0))):=by
 have:inside (i:Int) 64=true:=by simp[inside];omega
 simp[AZ,ZR,this,LQ,Fh (show i<l.length by omega)]
theorem ABs (x:Nat):CO P 58 (vw x)=true:=by simp[CO,AAB,BM,NS,vw]
theorem ADp {h:List V} {id i:Nat} {l:List Nat} (hh:h[id]?=some (LQ l)) (hi:i<l.length):BI h 58 (.ref id [i] 58)=some (vw (l.getD i 0)):=Di (VS hh (Fh hi))
theorem ld8 {h:List V} {id i:Nat} {l:List Nat} (hh:h[id]?=some (A8 l)) (hi:i<l.length):BI h 58 (.ref id [i] 58)=some (vw (l.getD i 0)):=Di (VS hh (Fh hi))
theorem ABt {h:List V} {id i x:Nat} {l:List Nat} (hh:h[id]?=some (LQ l)) (hi:i<l.length):Gz P h 58 (.ref id [i] 58) (vw x)=some (h.set id (LQ (l.set i x))):=by
 rw[NV hh (Fh hi) (ABs x) rfl,SL];rfl
theorem st8 {h:List V} {id i x:Nat} {l:List Nat} (hh:h[id]?=some (A8 l)) (hi:i<l.length):Gz P h 58 (.ref id [i] 58) (vw x)=some (h.set id (A8 (l.set i x))):=by
 rw[NV hh (Fh hi) (ABs x) rfl,SL];rfl
def wordAt (p:List UInt8) (t:Nat):Nat:=((p.getD (4*t) 0).toNat*2^24%4294967296|||(p.getD (4*t+1) 0).toNat*2^16%4294967296)|||(p.getD (4*t+2) 0).toNat*2^8%4294967296|||(p.getD (4*t+3) 0).toNat
def PG (p:List UInt8):Nat→Nat→List Nat→List Nat
 |0,_,w=>w
 |n+1,t,w=>PG p n (t+1) (w.set t (wordAt p t))
theorem Tt (p:List UInt8) (t:Nat):wordAt p t<4294967296:=by
 have h3:(p.getD (4*t+3) 0).toNat<2^32:=Nat.lt_of_lt_of_le (UInt8.toNat_lt _) (by decide)
 refine Nat.or_lt_two_pow (n:=32) (Nat.or_lt_two_pow (n:=32) (Nat.or_lt_two_pow (n:=32) (Nat.mod_lt _ (by decide)) (Nat.mod_lt _ (by decide))) (Nat.mod_lt _ (by decide))) h3
theorem B32.set {l:List Nat} (h:B32 l) (i:Nat) {x:Nat} (hx:x<4294967296):B32 (l.set i x):=by
 intro y hy
 rcases List.mem_or_eq_of_mem_set hy with hy|rfl
 ·exact h y hy
 ·exact hx
theorem Lr {p:List UInt8} {i:Nat} (hi:i<p.length):(bytesOf p)[i]?=some (.int .u8 ((p.getD i 0).toNat:Int)):=by
 simp[bytesOf,List.getElem?_map,List.getElem?_eq_getElem hi]
theorem ixB {xs:List V} {f:Fl} {i:Nat} {v:V} (hv:xs[i]?=some v):AZ P 167 (.lst 5 f xs) (.int .i64 (i:Int))=some (.rop 5 v):=by
 have hi:=VT hv
 have:inside (i:Int) xs.length=true:=by simp[inside,hi]
 simp[AZ,ET,this,hv]
theorem ixW {xs:List V} {f:Fl} {i:Nat} {v:V} (hv:xs[i]?=some v):AZ P 167 (V.weak (.lst 5 f xs)) (.int .i64 (i:Int))=some (.rop 5 v):=by
 cases f<;>exact ixB hv
theorem X6 {h:List V} {f:Fl} {p:List UInt8} {t:Nat} {l:List Nat} (hp:4*t+4≤p.length) (ht:t<64) (hh:h[2]?=some (LQ l)) (hl:l.length=64) (K:List V→Option (V×List V)):
 NQ (.ref 2 [] 210) (.int .i64 (t:Int)) (.lst 5 f (((bytesOf p).take (4*t+4)).drop (4*t))) h K=K (h.set 2 (LQ (l.set t (wordAt p t)))):=by
 have g:∀j,j<4→(((bytesOf p).take (4*t+4)).drop (4*t))[j]?=some (.int .u8 ((p.getD (4*t+j) 0).toNat:Int)):=by
  intro j hj
  rw[List.getElem?_drop,List.getElem?_take_of_lt (by omega),Lr (by omega)]
 have i0:=ixW (f:=f) (g 0 (by omega));have i1:=ixW (f:=f) (g 1 (by omega));have i2:=ixW (f:=f) (g 2 (by omega));have i3:=ixW (f:=f) (g 3 (by omega))
 have b:∀j,(p.getD j 0).toNat<256:=fun j=>UInt8.toNat_lt _
 have c:∀x:Nat,x<256→conv P h 5 58 (.int .u8 (x:Int))=some (.int .u32 (x:Int)):=fun x hx=>by rw[Dt NS,wrap_u32 (by omega) (by omega)]
 have s24:∀x:Nat,AO .shl (.int .u32 (x:Int)) (.int .u64 24)=some (.int .u32 ((x*2^24%4294967296:Nat):Int)):=fun x=>JV (a:=x) 24 (by omega)
 have s16:∀x:Nat,AO .shl (.int .u32 (x:Int)) (.int .u64 16)=some (.int .u32 ((x*2^16%4294967296:Nat):Int)):=fun x=>JV (a:=x) 16 (by omega)
 have s8:∀x:Nat,AO .shl (.int .u32 (x:Int)) (.int .u64 8)=some (.int .u32 ((x*2^8%4294967296:Nat):Int)):=fun x=>JV (a:=x) 8 (by omega)
 have m:∀x:Nat,x%4294967296<4294967296:=fun x=>Nat.mod_lt _ (by decide)
 have o1:=Nat.or_lt_two_pow (n:=32) (m ((p.getD (4*t+0) 0).toNat*2^24)) (m ((p.getD (4*t+1) 0).toNat*2^16))
 have o2:=Nat.or_lt_two_pow (n:=32) o1 (m ((p.getD (4*t+2) 0).toNat*2^8))
 simp only[NQ]
 rw[show(0:Int)=((0:Nat):Int)from rfl,show(1:Int)=((1:Nat):Int)from rfl,show(2:Int)=((2:Nat):Int)from rfl,show(3:Int)=((3:Nat):Int)from rfl,i0,i1,i2,i3]
 simp only[Option.bind_some,JS,c _ (b _),s24,s16,s8]
 rw[u32_or (m _) (m _)]
 simp only[Option.bind_some]
 rw[u32_or o1 (m _)]
 simp only[Option.bind_some]
 rw[u32_or o2 (by have:=b (4*t+3);omega)]
 simp only[Option.bind_some]
 rw[AAD ht,Option.bind_some]
 exact(congrArg (fun z=>Option.bind z fun h_1=>K h_1) (ABt (x:=wordAt p t) hh (by omega))).trans rfl
end
section
open Go AM
def sg0 (x:Nat):Nat:=(EK x 7 ^^^ EK x 18) ^^^ x/2^3
def sg1 (x:Nat):Nat:=(EK x 17 ^^^ EK x 19) ^^^ x/2^10
def ad (a b:Nat):Nat:=(a+b)%4294967296
def Ls:Nat→Nat→List Nat→List Nat
 |0,_,w=>w
 |n+1,t,w=>Ls n (t+1) (w.set t (ad (ad (ad (w.getD (t-16) 0) (w.getD (t-7) 0)) (sg0 (w.getD (t-15) 0))) (sg1 (w.getD (t-2) 0))))
theorem VW (a b:Nat):ad a b<4294967296:=Nat.mod_lt _ (by decide)
theorem KD {a b:Nat} (ha:a<4294967296) (hb:b<4294967296):a ^^^ b<4294967296:=Nat.xor_lt_two_pow (n:=32) ha hb
theorem AAE {a b:Nat} (ha:a<4294967296) (hb:b<4294967296):a|||b<4294967296:=Nat.or_lt_two_pow (n:=32) ha hb
theorem NW {a b:Nat} (ha:a<4294967296):a&&& b<4294967296:=Nat.lt_of_le_of_lt Nat.and_le_left ha
theorem SN {a:Nat} (n:Nat) (ha:a<4294967296):a/n<4294967296:=Nat.lt_of_le_of_lt (Nat.div_le_self _ _) ha
theorem Dv (a b:Nat):AO .add (.int .u32 (a:Int)) (.int .u32 (b:Int))=some (.int .u32 (ad a b:Int)):=X4 a b
def ZT (k:List Nat) (w:List Nat) (t:Nat) (v:List Nat):List Nat:=
 let a:=v.getD 0 0;let b:=v.getD 1 0;let c:=v.getD 2 0;let e:=v.getD 4 0;let f:=v.getD 5 0;let g:=v.getD 6 0
 let x:=ad (ad (ad (ad (v.getD 7 0) ((EK e 6 ^^^ EK e 11) ^^^ EK e 25)) (g ^^^ (e&&& (f ^^^ g)))) (k.getD t 0)) (w.getD t 0)
 let y:=ad ((EK a 2 ^^^ EK a 13) ^^^ EK a 22) ((a&&& b)|||(c&&& (a|||b)))
 [ad x y,a,b,c,ad (v.getD 3 0) x,e,f,g]
def PI (k w:List Nat):Nat→Nat→List Nat→List Nat
 |0,_,v=>v
 |n+1,t,v=>PI k w n (t+1) (ZT k w t v)
def NY (v:List Nat):Nat→Nat→List Nat→List Nat
 |0,_,h=>h
 |n+1,i,h=>NY v n (i+1) (h.set i (ad (h.getD i 0) (v.getD i 0)))
def DL:List Nat:=(match Jh with|V.agg _ l=>l|_=>[]).map fun v=>match v with|V.int _ n=>n.toNat|_=>0
theorem X7:Jh=LQ DL:=by kernel_rfl
theorem ABu:DL.length=64:=by kernel_rfl
def PK (h:List Nat) (p:List UInt8):List Nat:=
 let w:=Ls 48 16 (PG p 16 0 (List.replicate 64 0))
 NY (PI DL w 64 0 h) 8 0 h
theorem VX {k w v:List Nat} (hv:B32 v) (t:Nat):B32 (ZT k w t v)∧(ZT k w t v).length=8:=by
 refine⟨?_,rfl⟩
 intro x hx
 simp only[ZT,List.mem_cons,List.not_mem_nil,or_false]at hx
 rcases hx with rfl|rfl|rfl|rfl|rfl|rfl|rfl|rfl<;>first|exact VW _ _|exact hv.get _
theorem SQ {v:List Nat}:∀(n i:Nat) (h:List Nat),B32 h→h.length=8→B32 (NY v n i h)∧(NY v n i h).length=8
 |0,_,h,hb,hl=>⟨hb,hl⟩
 |n+1,i,h,hb,hl=>SQ n (i+1) _ (hb.set i (VW _ _)) (by simp[hl])
theorem Lu (h:List V):∀l:List Nat,Ba h (G9 l)=G9 l
 |[]=>rfl
 |x::l=>by simp only[G9,List.map_cons,Ba];rw[show List.map vw l=G9 l from rfl,Lu h l];rfl
theorem PN:∀l:List Nat,Ag (G9 l)=G9 l
 |[]=>rfl
 |x::l=>by simp only[G9,List.map_cons,Ag];rw[show List.map vw l=G9 l from rfl,PN l];rfl
theorem L6:∀l:List Nat,AL (G9 l)=true
 |[]=>rfl
 |x::l=>by simp only[G9,List.map_cons,AL];rw[show List.map vw l=G9 l from rfl,L6 l];rfl
theorem PO (n:Nat):∀l:List Nat,Bv n (G9 l)=true
 |[]=>rfl
 |x::l=>by simp only[G9,List.map_cons,Bv];rw[show List.map vw l=G9 l from rfl,PO n l];rfl
theorem Dl (n:Nat):∀l:List Nat,AU n (G9 l)=true
 |[]=>rfl
 |x::l=>by simp only[G9,List.map_cons,AU];rw[show List.map vw l=G9 l from rfl,Dl n l];rfl
theorem AAF (n:Nat) (h:List V) (l:List Nat):Bh n h (A8 l)=some (A8 l,h.take n):=by
 simp only[Bh,A8,V.unmut,Lu,V.norm,PN,V.clean,L6,V.over,PO,Bool.and_self,if_true]
theorem X8 (v:List Nat) (hv:v.length=8) (x w z:V):∀(n i:Nat) (hs:List Nat),i+n=8→hs.length=8→
 JQ (.ref 0 [] 200) (.ref 1 [] 200) (A8 v) (.int .i64 (i:Int)) [A8 hs,A8 (List.replicate 8 0),w,z]=some (A8 (NY v n i hs),[]):=by
 intro n
 induction n with
 |zero=>
  intro i hs hi hl
  rw[J8]
  have:¬((i:Int)<8):=by omega
  have l0:BI [A8 hs,A8 (List.replicate 8 0),w,z] 200 (.ref 0 [] 200)=some (A8 hs):=Di (Gi rfl)
  have s1:Gz P [A8 hs,A8 (List.replicate 8 0),w,z] 200 (.ref 1 [] 200) (A8 hs)=some [A8 hs,A8 hs,w,z]:=
   Fg rfl (by simp[CO,Ip,A8]) (by simp only[A8,V.under];exact Dl _ _)
  have l1:BI [A8 hs,A8 hs,w,z] 200 (.ref 1 [] 200)=some (A8 hs):=Di (Gi rfl)
  simp only[J7,O8,b_lss,Option.bind_some,VB,this,if_false,l0,s1,l1,AAF,List.take_zero,NY]
 |succ n ih=>
  intro i hs hi hl
  rw[J8]
  have hlt:(i:Int)<8:=by omega
  have ix:II P 200 (A8 v) (.int .i64 (i:Int))=some (vw (v.getD i 0)):=by
   have:inside (i:Int) 8=true:=by simp[inside];omega
   simp[II,A8,Ip,this,Fh (show i<v.length by omega),cp,ZQ]
  have l0:BI [A8 hs,A8 (List.replicate 8 0),w,z] 58 (.ref 0 [i] 58)=some (vw (hs.getD i 0)):=ld8 rfl (by omega)
  have s0:Gz P [A8 hs,A8 (List.replicate 8 0),w,z] 58 (.ref 0 [i] 58) (vw (ad (hs.getD i 0) (v.getD i 0)))=some [A8 (hs.set i (ad (hs.getD i 0) (v.getD i 0))),A8 (List.replicate 8 0),w,z]:=st8 rfl (by omega)
  have a0:AO .add (vw (hs.getD i 0)) (vw (v.getD i 0))=some (vw (ad (hs.getD i 0) (v.getD i 0))):=Dv _ _
  simp only[J7,O5,O6,O7,b_lss,Option.bind_some,VB,hlt,if_true,ix,ix8 (show i<8 by omega),l0,a0,s0,Ey]
  rw[show((i:Int)+1)=((i+1:Nat):Int)by omega,wrap_i64 (by omega) (by omega)]
  exact ih (i+1) _ (by omega) (by simp[hl])
theorem ADs {id:Nat} (j:Nat) (hj:j<8):AZ P 200 (.ref id [] 200) (.int .i64 (j:Int))=some (.ref id [j] 58):=ix8 hj
theorem at8 {B:Type} {h:List V} {id:Nat} {v:List Nat} (hh:h[id]?=some (A8 v)) (hv:v.length=8) (j:Nat) (hj:j<8) (K:V→Option B):
 (AZ P 200 (.ref id [] 200) (.int .i64 (j:Int))).bind (fun a=>(BI h 58 a).bind K)=K (.int .u32 (v.getD j 0:Int)):=by
 rw[ADs j hj,Option.bind_some,ld8 hh (by omega),Option.bind_some];rfl
theorem NZ {B:Type} {h:List V} {id:Nat} {v:List Nat} (hh:h[id]?=some (LQ v)) (hv:v.length=64) (j:Nat) (hj:j<64) (K:V→Option B):
 (AZ P 210 (.ref id [] 210) (.int .i64 (j:Int))).bind (fun a=>(BI h 58 a).bind K)=K (.int .u32 (v.getD j 0:Int)):=by
 rw[AAD hj,Option.bind_some,ADp hh (by omega),Option.bind_some];rfl
theorem atK {B:Type} {h:List V} (j:Nat) (hj:j<64) (K:V→Option B):
 (AZ P 210 (.rop 210 Jh) (.int .i64 (j:Int))).bind (fun a=>(BI h 58 a).bind K)=K (.int .u32 (DL.getD j 0:Int)):=by
 rw[X7,ixK hj ABu,Option.bind_some,JS,Option.bind_some];rfl
theorem Xd {B:Type} {h:List V} {x:Nat} (hx:x<4294967296) (m:Nat) (h1:1≤m) (h2:m≤31) (K:V×List V→Option B):
 (Cl 150 (AP h [.int .u32 (x:Int),.int .i64 (m:Int)]) []).bind K=K (.int .u32 (EK x m:Int),[]):=by
 rw[ABr hx m h1 h2,Option.bind_some]
theorem AB {A B:Type} {o:Option A} {x:A} (h:o=some x) (K:A→Option B):o.bind K=K x:=by rw[h];rfl
theorem Qa {B:Type} {k:IntKind} {a b:Int} (h:a<b) (K:V→Option B):(AO .lss (.int k a) (.int k b)).bind K=K (.bool true):=by
 rw[b_lss,Option.bind_some,decide_eq_true h]
theorem Tv {B:Type} {k:IntKind} {a b:Int} (h:¬a<b) (K:V→Option B):(AO .lss (.int k a) (.int k b)).bind K=K (.bool false):=by
 rw[b_lss,Option.bind_some,decide_eq_false h]
theorem EL {B:Type} (a b:Option B):V.ite (.bool true) a b=a:=rfl
theorem Dh {B:Type} (a b:Option B):V.ite (.bool false) a b=b:=rfl
theorem VY {h:List V} {v:List Nat} (hh:h[3]?=some (A8 v)) (hv:v.length=8) (K:V→V→V→V→V→V→Option (V×List V)):
 J3 (.ref 3 [] 200) h K=K (vw (v.getD 0 0)) (vw (v.getD 1 0)) (vw (v.getD 2 0)) (vw (v.getD 4 0)) (vw (v.getD 5 0)) (vw (v.getD 6 0)):=by
 unfold J3
 exact(at8 hh hv 0 (by omega) _).trans<|(at8 hh hv 1 (by omega) _).trans<|(at8 hh hv 2 (by omega) _).trans<|(at8 hh hv 4 (by omega) _).trans<|(at8 hh hv 5 (by omega) _).trans<|(at8 hh hv 6 (by omega) _)
def chE (e f g h7 k w:Nat):Nat:=ad (ad (ad (ad h7 ((EK e 6 ^^^ EK e 11) ^^^ EK e 25)) (g ^^^ (e&&& (f ^^^ g)))) k) w
def mjA (a b c:Nat):Nat:=ad ((EK a 2 ^^^ EK a 13) ^^^ EK a 22) ((a&&& b)|||(c&&& (a|||b)))
theorem VZ {h:List V} {v w:List Nat} {t e f g:Nat} (hh:h[3]?=some (A8 v)) (hv:v.length=8) (hw:h[2]?=some (LQ w)) (lw:w.length=64) (ht:t<64)
 (be:e<4294967296) (bf:f<4294967296) (bg:g<4294967296) (K:V→Option (V×List V)):
 J4 (.ref 2 [] 210) (.ref 3 [] 200) (.int .i64 (t:Int)) (vw e) (vw f) (vw g) h K=K (vw (chE e f g (v.getD 7 0) (DL.getD t 0) (w.getD t 0))):=by
 have r1:=Bz (n:=6) be;have r2:=Bz (n:=11) be;have r3:=Bz (n:=25) be
 unfold J4
 refine(at8 hh hv 7 (by omega) _).trans ?_
 refine(Xd be 6 (by omega) (by omega) _).trans<|(Xd be 11 (by omega) (by omega) _).trans ?_
 refine(AB (u32_xor r1 r2) _).trans ?_
 refine(Xd be 25 (by omega) (by omega) _).trans ?_
 refine(AB (u32_xor (KD r1 r2) r3) _).trans ?_
 refine(AB (Dv _ _) _).trans ?_
 refine(AB (u32_xor bf bg) _).trans ?_
 refine(AB (u32_and be (KD bf bg)) _).trans ?_
 refine(AB (u32_xor bg (NW be)) _).trans ?_
 refine(AB (Dv _ _) _).trans ?_
 refine(atK t ht _).trans ?_
 refine(AB (Dv _ _) _).trans ?_
 refine(NZ hw lw t ht _).trans ?_
 exact AB (Dv _ _) _
theorem Va {h:List V} {a b c:Nat} (ba:a<4294967296) (bb:b<4294967296) (bc:c<4294967296) (K:V→Option (V×List V)):
 J5 (vw a) (vw b) (vw c) h K=K (vw (mjA a b c)):=by
 have r1:=Bz (n:=2) ba;have r2:=Bz (n:=13) ba;have r3:=Bz (n:=22) ba
 unfold J5
 refine(Xd ba 2 (by omega) (by omega) _).trans<|(Xd ba 13 (by omega) (by omega) _).trans ?_
 refine(AB (u32_xor r1 r2) _).trans ?_
 refine(Xd ba 22 (by omega) (by omega) _).trans ?_
 refine(AB (u32_xor (KD r1 r2) r3) _).trans ?_
 refine(AB (u32_and ba bb) _).trans ?_
 refine(AB (u32_or ba bb) _).trans ?_
 refine(AB (u32_and bc (AAE ba bb)) _).trans ?_
 refine(AB (u32_or (NW ba) (NW bc)) _).trans ?_
 exact AB (Dv _ _) _
theorem ADu (z0 z1 z2 z3 z4 z5 z6 z7:Nat):bld P 200 [(0,.int .u32 (z0:Int)),(1,.int .u32 (z1:Int)),(2,.int .u32 (z2:Int)),(3,.int .u32 (z3:Int)),(4,.int .u32 (z4:Int)),(5,.int .u32 (z5:Int)),(6,.int .u32 (z6:Int)),(7,.int .u32 (z7:Int))]=some (A8 [z0,z1,z2,z3,z4,z5,z6,z7]):=by
 simp[bld,Ip,QZ,Ci,CO,AAB,BM,NS,cp,ZQ,A8,G9,vw,List.replicate]
theorem Vb {h:List V} {v:List Nat} {a b c e f g x y:Nat} (hh:h[3]?=some (A8 v)) (hv:v.length=8) (K:List V→Option (V×List V)):
 J6 (.ref 3 [] 200) (vw a) (vw b) (vw c) (vw e) (vw f) (vw g) (vw x) (vw y) h K=K (h.set 3 (A8 [ad x y,a,b,c,ad (v.getD 3 0) x,e,f,g])):=by
 unfold J6
 refine(AB (Dv _ _) _).trans ?_
 refine(at8 hh hv 3 (by omega) _).trans ?_
 refine(AB (Dv _ _) _).trans ?_
 refine(AB (ADu _ _ _ _ _ _ _ _) _).trans ?_
 exact AB (Fg hh (by simp[CO,Ip,A8]) (by simp only[A8,V.under];exact Dl _ _)) _
theorem AAG (k w v:List Nat) (t:Nat):ZT k w t v=[ad (chE (v.getD 4 0) (v.getD 5 0) (v.getD 6 0) (v.getD 7 0) (k.getD t 0) (w.getD t 0)) (mjA (v.getD 0 0) (v.getD 1 0) (v.getD 2 0)),v.getD 0 0,v.getD 1 0,v.getD 2 0,
 ad (v.getD 3 0) (chE (v.getD 4 0) (v.getD 5 0) (v.getD 6 0) (v.getD 7 0) (k.getD t 0) (w.getD t 0)),v.getD 4 0,v.getD 5 0,v.getD 6 0]:=rfl
theorem AAH (k w:List Nat) (n t:Nat) (v:List Nat):PI k w (n+1) t v=PI k w n (t+1) (ZT k w t v):=rfl
theorem X9 (h w:List Nat) (hh:h.length=8) (hw:w.length=64) (bw:B32 w):∀(n t:Nat) (v:List Nat),t+n=64→B32 v→v.length=8→
 JP (.ref 0 [] 200) (.ref 1 [] 200) (.ref 2 [] 210) (.ref 3 [] 200) (.int .i64 (t:Int)) [A8 h,A8 (List.replicate 8 0),LQ w,A8 v]=
  some (A8 (NY (PI DL w n t v) 8 0 h),[]):=by
 intro n
 induction n with
 |zero=>
  intro t v ht bv hv
  rw[J9]
  have:¬((t:Int)<64):=by omega
  have l3:BI [A8 h,A8 (List.replicate 8 0),LQ w,A8 v] 200 (.ref 3 [] 200)=some (A8 v):=Di (Gi rfl)
  simp only[Jz,O4,b_lss,Option.bind_some,VB,this,if_false,l3,PI]
  exact X8 v hv (A8 v) (LQ w) (A8 v) 8 0 h rfl hh
 |succ n ih=>
  intro t v ht bv hv
  rw[J9]
  have hlt:(t:Int)<64:=by omega
  have ht':t<64:=by omega
  rw[Jz,Qa hlt,EL,O0]
  rw[VY rfl hv,VZ rfl hv rfl hw ht' (bv.get 4) (bv.get 5) (bv.get 6),Va (bv.get 0) (bv.get 1) (bv.get 2),Vb rfl hv,←AAG]
  simp only[O3,Ey]
  rw[show((t:Int)+1)=((t+1:Nat):Int)by omega,wrap_i64 (by omega) (by omega),AAH]
  have st:[A8 h,A8 (List.replicate 8 0),LQ w,A8 v].set 3 (A8 (ZT DL w t v))=[A8 h,A8 (List.replicate 8 0),LQ w,A8 (ZT DL w t v)]:=rfl
  rw[st]
  exact ih (t+1) _ (by omega) (VX bv t).1 (VX bv t).2
end
section
open Go AM
theorem LU {B:Type} {a b:Nat} (h:b≤a) (ha:a<2^62) (K:V→Option B):(AO .sub (.int .i64 (a:Int)) (.int .i64 (b:Int))).bind K=K (.int .i64 ((a-b:Nat):Int)):=by
 rw[Je,show(a:Int)-(b:Int)=((a-b:Nat):Int)by omega,wrap_i64 (by omega) (by omega)];rfl
theorem LV {B:Type} {a b:Nat} (h:a+b<2^62) (K:V→Option B):(AO .add (.int .i64 (a:Int)) (.int .i64 (b:Int))).bind K=K (.int .i64 ((a+b:Nat):Int)):=by
 rw[Ey,show(a:Int)+(b:Int)=((a+b:Nat):Int)by omega,wrap_i64 (by omega) (by omega)];rfl
theorem YA {B:Type} {a b:Nat} (h:a*b<2^62) (K:V→Option B):(AO .mul (.int .i64 (a:Int)) (.int .i64 (b:Int))).bind K=K (.int .i64 ((a*b:Nat):Int)):=by
 rw[VD,←Int.natCast_mul,wrap_i64 (by omega) (by omega)];rfl
theorem ABv {f:Fl} {t s:TypeId} {xs:List V} {a b:Nat} (k:K P s= .slice t) (h1:a≤b) (h2:b≤xs.length):
 LD P s (V.weak (.lst t f xs)) (some (.int .i64 (a:Int))) (some (.int .i64 (b:Int))) none=some (.lst t f.cut ((xs.take b).drop a)):=by
 have e1:(0:Int)≤(b:Int)∧b≤xs.length:=⟨by omega,h2⟩
 have e2:(0:Int)≤(a:Int)∧(a:Int)≤(b:Int):=⟨by omega,by omega⟩
 cases f<;>simp[LD,V.weak,k,BH,e1,e2,Fl.cut,h1,h2]
section
variable {h:List V} {w:List Nat} {t:Nat}
variable (hw:h[2]?=some (LQ w)) (lw:w.length=64) (bw:B32 w) (ht:t<64)
include hw lw bw ht
theorem Vd (h16:16≤t) (K:V→Option (V×List V)):
 Jv (.ref 2 [] 210) (.int .i64 (t:Int)) h K=K (vw (sg0 (w.getD (t-15) 0))):=by
 have b:=bw.get (t-15)
 unfold Jv
 refine(LU (b:=15) (by omega) (by omega) _).trans<|(NZ hw lw (t-15) (by omega) _).trans<|(Xd b 7 (by omega) (by omega) _).trans ?_
 refine(LU (b:=15) (by omega) (by omega) _).trans<|(NZ hw lw (t-15) (by omega) _).trans<|(Xd b 18 (by omega) (by omega) _).trans ?_
 refine(AB (u32_xor (Bz b) (Bz b)) _).trans ?_
 refine(LU (b:=15) (by omega) (by omega) _).trans<|(NZ hw lw (t-15) (by omega) _).trans ?_
 refine(AB (JU 3 (by omega)) _).trans ?_
 exact AB (u32_xor (KD (Bz b) (Bz b)) (SN _ b)) _
theorem Ve (h16:16≤t) (K:V→Option (V×List V)):
 Jw (.ref 2 [] 210) (.int .i64 (t:Int)) h K=K (vw (sg1 (w.getD (t-2) 0))):=by
 have b:=bw.get (t-2)
 unfold Jw
 refine(LU (b:=2) (by omega) (by omega) _).trans<|(NZ hw lw (t-2) (by omega) _).trans<|(Xd b 17 (by omega) (by omega) _).trans ?_
 refine(LU (b:=2) (by omega) (by omega) _).trans<|(NZ hw lw (t-2) (by omega) _).trans<|(Xd b 19 (by omega) (by omega) _).trans ?_
 refine(AB (u32_xor (Bz b) (Bz b)) _).trans ?_
 refine(LU (b:=2) (by omega) (by omega) _).trans<|(NZ hw lw (t-2) (by omega) _).trans ?_
 refine(AB (JU 10 (by omega)) _).trans ?_
 exact AB (u32_xor (KD (Bz b) (Bz b)) (SN _ b)) _
theorem Vf (h16:16≤t) (x y:Nat) (K:List V→Option (V×List V)):
 Jy (.ref 2 [] 210) (.int .i64 (t:Int)) (vw x) (vw y) h K=K (h.set 2 (LQ (w.set t (ad (ad (ad (w.getD (t-16) 0) (w.getD (t-7) 0)) x) y)))):=by
 unfold Jy
 refine(LU (b:=16) (by omega) (by omega) _).trans<|(NZ hw lw (t-16) (by omega) _).trans ?_
 refine(LU (b:=7) (by omega) (by omega) _).trans<|(NZ hw lw (t-7) (by omega) _).trans ?_
 refine(AB (Dv _ _) _).trans ?_
 refine(AB (Dv _ _) _).trans ?_
 refine(AB (Dv _ _) _).trans ?_
 refine(AB (AAD ht) _).trans ?_
 exact AB (ABt hw (by omega)) _
end
theorem YB (n t:Nat) (w:List Nat):Ls (n+1) t w=Ls n (t+1) (w.set t (ad (ad (ad (w.getD (t-16) 0) (w.getD (t-7) 0)) (sg0 (w.getD (t-15) 0))) (sg1 (w.getD (t-2) 0)))):=rfl
theorem YC (p:List UInt8) (n t:Nat) (w:List Nat):PG p (n+1) t w=PG p n (t+1) (w.set t (wordAt p t)):=rfl
theorem YD (h:List Nat) (hh:h.length=8) (bh:B32 h):∀(n t:Nat) (w:List Nat),t+n=64→16≤t→B32 w→w.length=64→
 JO (.ref 0 [] 200) (.ref 1 [] 200) (.ref 2 [] 210) (.int .i64 (t:Int)) [A8 h,A8 (List.replicate 8 0),LQ w]=
  some (A8 (NY (PI DL (Ls n t w) 64 0 h) 8 0 h),[]):=by
 intro n
 induction n with
 |zero=>
  intro t w ht h16 bw lw
  rw[KA,NR,Tv (by omega),Dh,Oz]
  have z:zero P 200=A8 (List.replicate 8 0):=by rw[QZ];rfl
  have l0:BI [A8 h,A8 (List.replicate 8 0),LQ w] 200 (.ref 0 [] 200)=some (A8 h):=Di (Gi rfl)
  rw[l0,z]
  refine(AB (Fg (h:=[A8 h,A8 (List.replicate 8 0),LQ w]++[A8 (List.replicate 8 0)]) rfl (by simp[CO,Ip,A8]) (by simp only[A8,V.under];exact Dl _ _)) _).trans ?_
  exact X9 h w hh lw bw 64 0 h rfl bh hh
 |succ n ih=>
  intro t w ht h16 bw lw
  rw[KA,NR,Qa (by omega),EL,Vd rfl lw bw (by omega) h16,Ve rfl lw bw (by omega) h16,Vf rfl lw bw (by omega) h16,Oy,YB]
  refine(LV (b:=1) (by omega) _).trans ?_
  exact ih (t+1) _ (by omega) (by omega) (bw.set t (VW _ _)) (by simp[lw])
theorem YE (h:List Nat) (hh:h.length=8) (bh:B32 h) (p:List UInt8) (hp:p.length=64) (f:Fl):∀(n t:Nat) (w:List Nat),t+n=16→B32 w→w.length=64→
 JM (.lst 5 f (bytesOf p)) (.ref 0 [] 200) (.ref 1 [] 200) (.ref 2 [] 210) (.int .i64 (t:Int)) [A8 h,A8 (List.replicate 8 0),LQ w]=
  some (A8 (NY (PI DL (Ls 48 16 (PG p n t w)) 64 0 h) 8 0 h),[]):=by
 intro n
 induction n with
 |zero=>
  intro t w ht bw lw
  rw[KC,NP,Tv (by omega),Dh,SC]
  exact YD h hh bh 48 16 w rfl (by omega) bw lw
 |succ n ih=>
  intro t w ht bw lw
  rw[KC,NP,Qa (by omega),EL,Rz,SA]
  refine(YA (a:=4) (by omega) _).trans<|(YA (a:=4) (by omega) _).trans<|(LV (b:=4) (by omega) _).trans ?_
  refine(AB (ABv (f:=f) (t:=5) (xs:=bytesOf p) ET (a:=4*t) (b:=4*t+4) (by omega) (by simp[bytesOf];omega)) _).trans ?_
  rw[X6 (by omega) (by omega) rfl lw,SB,YC]
  refine(LV (b:=1) (by omega) _).trans ?_
  exact ih (t+1) _ (by omega) (bw.set t (Tt p t)) (by simp[lw])
theorem YF {h:List Nat} (hh:h.length=8) (bh:B32 h) {p:List UInt8} (hp:p.length=64) (f:Fl):
 Cl 141 [A8 h,.lst 5 f (bytesOf p)] []=some (A8 (PK h p),[]):=by
 have tk:(CO P 200 (A8 h)&&V.under (List.length ([]:List V)) (A8 h))=true:=by
  simp only[A8,V.under,Dl,CO,Ip];simp
 rw[Xx,Rw,if_pos tk,Rx,Ry,QZ,AAC]
 have z32:B32 (List.replicate 64 0):=fun x hx=>by rw[List.eq_of_mem_replicate hx];decide
 exact YE h hh bh p hp f 16 0 (List.replicate 64 0) rfl z32 rfl
end
end Go.Proofs.YtkelgdjhpgefnaaGreatDoor
