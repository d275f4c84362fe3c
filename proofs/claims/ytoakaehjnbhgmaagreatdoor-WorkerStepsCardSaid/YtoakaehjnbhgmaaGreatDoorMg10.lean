/-
  Part of the proof of a statement about the given program: an abstract machine over its code, the simulation, its functions' equations, what they compute.
-/
import Derived.Test.YtoakaehjnbhgmaaGreatDoorMg5
import Derived.Test.YtoakaehjnbhgmaaGreatDoorMg6
import Derived.Test.YtoakaehjnbhgmaaGreatDoorMg7
import Derived.Test.YtoakaehjnbhgmaaGreatDoorMg8
import Derived.Test.YtoakaehjnbhgmaaGreatDoorMg9
set_option linter.unusedVariables false
set_option linter.unusedSimpArgs false
set_option linter.unusedSectionVars false
set_option maxRecDepth 100000
noncomputable section
namespace Go.Proofs.YtoakaehjnbhgmaaGreatDoor
section
open Go AM
theorem Qj {ty:V→Bool} {H:List V} {z v:V} (ht:ty v=true) (hu:v.under (H.length+1)=true) (t:TypeId):CY ty t (H++[z]) (.ref H.length [] t) v=some (H++[v]):=by
 rw[AL4 (by simp) ht hu,IU]
theorem AEt (H:List V) (v:V) (t:TypeId):AV (H++[v]) t (.ref H.length [] t)=some v:=Cf (FX (FY H v))
end
section
open Go AM
end
section
open Go AM
def vIn (s:List UInt8) (e:Nat):V:= .agg 195 [.str s,.int .i64 (e:Int)]
def rIn (id:Nat):V:= .ref id [] 196
theorem Ko (n:Nat) (h:List V) (k:IntKind) (b:Int):AP n h (.int k b)=some (.int k b,h.take n):=rfl
theorem VD (n:Nat) (h:List V) (s:List UInt8):AP n h (.str s)=some (.str s,h.take n):=rfl
end
section
open Go AM
end
section
open Go AM
structure Msg where
 fr:Int
 to:Int
 val:Int
 deriving DecidableEq
def Aa (m:Msg):V:= .agg 151 [.int .i64 m.fr,.int .i64 m.to,.int .i64 m.val]
end
section
open Go AM
@[go_sem] theorem AQg (m:Msg):(Aa m).pl=true:=(rfl)
@[go_sem] theorem AEu (l:List Msg):IA (l.map Aa)=true:=CX (fun _=>rfl) l
@[go_sem] theorem XW (m:Msg):tyG 151 (Aa m)=true:=Qi ..
@[go_sem] theorem AO3 (l:List Msg):(l.map Aa).all (tyG 151)=true:=all_map (fun _=>Qi ..) l
end
section
open Go AM
def vw (n:Nat):V:= .int .u32 (n:Int)
def Kq (l:List Nat):List V:=l.map vw
def A8 (l:List Nat):V:= .agg 247 (Kq l)
def SH (l:List Nat):V:= .agg 261 (Kq l)
def B32 (l:List Nat):Prop:=∀x∈l,x<4294967296
def EG (x n:Nat):Nat:=x*2^(32-n)%4294967296|||x/2^n
theorem Ah {x n:Nat} (hx:x<4294967296):EG x n<4294967296:=
 Nat.or_lt_two_pow (n:=32) (Nat.mod_lt _ (by decide)) (Nat.lt_of_le_of_lt (Nat.div_le_self _ _) hx)
theorem GU (n:Int):IntKind.wrap .u64 n=n%18446744073709551616:=by simp[IntKind.wrap,IntKind.bits,IntKind.signed]
theorem Qk (a n:Nat):Int.fdiv (a:Int) (2^n)=((a/2^n:Nat):Int):=by
 have e:(2:Int)^n=((2^n:Nat):Int):=by push_cast;rfl
 rw[e,Int.fdiv_eq_ediv_of_nonneg _ (Int.natCast_nonneg _)];rfl
theorem OT {a:Nat} (n:Nat) (hn:n≤32):AL .shr (.int .u32 (a:Int)) (.int .u64 (n:Int))=some (.int .u32 ((a/2^n:Nat):Int)):=by
 rw[XU _ _ _ _ (by omega)]
 have:min ((n:Int)).toNat (IntKind.u32).bits=n:=by simp[IntKind.bits];omega
 rw[this,Qk]
theorem OU {a:Nat} (n:Nat) (hn:n≤32):AL .shl (.int .u32 (a:Int)) (.int .u64 (n:Int))=some (.int .u32 ((a*2^n%4294967296:Nat):Int)):=by
 rw[AKb _ _ _ _ (by omega)]
 have:min ((n:Int)).toNat (IntKind.u32).bits=n:=by simp[IntKind.bits];omega
 rw[this]
 have e:((a:Int)*2^n)=((a*2^n:Nat):Int):=by push_cast;rfl
 rw[e,Ho]
theorem AIT (a b:Nat):AL .add (.int .u32 (a:Int)) (.int .u32 (b:Int))=some (.int .u32 (((a+b)%4294967296:Nat):Int)):=by
 rw[DT,show(a:Int)+(b:Int)=((a+b:Nat):Int)by omega,Ho]
theorem AIU {x:Nat} (hx:x<4294967296) (n:Nat) (h1:1≤n) (h2:n≤31):Cl 211 [.int .u32 (x:Int),.int .i64 (n:Int)] []=some (.int .u32 (EG x n:Int),[]):=by
 have key:Cl 225 [.int .u32 (x:Int),.int .i64 (-(n:Int))] []=some (.int .u32 (EG x n:Int),[]):=by
  rw[AIL]
  have w:IntKind.wrap .u64 (-(n:Int))=((18446744073709551616-n:Nat):Int):=by rw[GU];omega
  have m:(18446744073709551616-n)&&& 31=32-n:=by
   rw[show(31:Nat)=2^5-1 from rfl,Nat.and_two_pow_sub_one_eq_mod];omega
  simp only[ABe,ABf,ABg,Ce VA,w,Option.bind_some]
  rw[show(31:Int)=((31:Nat):Int)from rfl,u64_and (by omega) (by omega),m,Option.bind_some,OU _ (by omega),Option.bind_some,KW,show(32:Int)-((32-n:Nat):Int)=(n:Int)by omega,wrap_u64 (by omega) (by omega),Option.bind_some,OT _ (by omega),Option.bind_some,
   u32_or (Nat.mod_lt _ (by decide)) (Nat.lt_of_le_of_lt (Nat.div_le_self _ _) hx),Option.bind_some,Ko]
  rfl
 rw[AIK]
 have ng:un .neg (.int .i64 (n:Int))=some (.int .i64 (-(n:Int))):=by
  simp only[un];rw[show(0:Int)-(n:Int)= -(n:Int)by omega,wrap_i64 (by omega) (by omega)]
 have e:AB [] [V.int .u32 (x:Int),V.int .i64 (-(n:Int))]=[V.int .u32 (x:Int),V.int .i64 (-(n:Int))]:=rfl
 simp only[ABc,ABd,ng,Option.bind_some,e,key]
 rfl
theorem AO4 {h:List V} {x:Nat} (hx:x<4294967296) (n:Nat) (h1:1≤n) (h2:n≤31):Cl 211 (AB h [.int .u32 (x:Int),.int .i64 (n:Int)]) []=some (.int .u32 (EG x n:Int),[]):=AIU hx n h1 h2
theorem JF {l:List Nat} {i:Nat} (hi:i<l.length):(Kq l)[i]?=some (vw (l.getD i 0)):=by
 simp[Kq,List.getElem?_map,List.getElem?_eq_getElem hi]
theorem B32.get {l:List Nat} (h:B32 l) (i:Nat):l.getD i 0<4294967296:=by
 rcases Nat.lt_or_ge i l.length with hi|hi
 ·rw[List.getD_eq_getElem?_getD,List.getElem?_eq_getElem hi];exact h _ (List.getElem_mem hi)
 ·rw[List.getD_eq_getElem?_getD,List.getElem?_eq_none hi];decide
theorem ABk (l:List Nat) (i x:Nat):(Kq l).set i (vw x)=Kq (l.set i x):=by simp[Kq,List.map_set]
theorem AL8 {id i:Nat} (hi:i<64):AX P 261 (.ref id [] 261) (.int .i64 (i:Int))=some (.ref id [i] 203):=by
 have:inside (i:Int) 64=true:=by simp[inside];omega
 simp[AX,AKa,this]
theorem ix8 {id i:Nat} (hi:i<8):AX P 247 (.ref id [] 247) (.int .i64 (i:Int))=some (.ref id [i] 203):=by
 have:inside (i:Int) 8=true:=by simp[inside];omega
 simp[AX,NJ,this]
theorem ixK {i:Nat} (hi:i<64) {l:List Nat} (hl:l.length=64):AX P 261 (.rop 261 (SH l)) (.int .i64 (i:Int))=some (.rop 203 (vw (l.getD i 0))):=by
 have:inside (i:Int) 64=true:=by simp[inside];omega
 simp[AX,AKa,this,SH,JF (show i<l.length by omega)]
theorem AO5 (x:Nat):Bj P 203 (vw x)=true:=by simp[Bj,AKZ,Bq,VB,vw]
theorem ARi {h:List V} {id i:Nat} {l:List Nat} (hh:h[id]?=some (SH l)) (hi:i<l.length):AV h 203 (.ref id [i] 203)=some (vw (l.getD i 0)):=Cf (L6 hh (JF hi))
theorem ld8 {h:List V} {id i:Nat} {l:List Nat} (hh:h[id]?=some (A8 l)) (hi:i<l.length):AV h 203 (.ref id [i] 203)=some (vw (l.getD i 0)):=Cf (L6 hh (JF hi))
theorem AL9 {h:List V} {id i x:Nat} {l:List Nat} (hh:h[id]?=some (SH l)) (hi:i<l.length):Gu P h 203 (.ref id [i] 203) (vw x)=some (h.set id (SH (l.set i x))):=by
 rw[OQ hh (JF hi) (AO5 x) rfl,ABk];rfl
theorem st8 {h:List V} {id i x:Nat} {l:List Nat} (hh:h[id]?=some (A8 l)) (hi:i<l.length):Gu P h 203 (.ref id [i] 203) (vw x)=some (h.set id (A8 (l.set i x))):=by
 rw[OQ hh (JF hi) (AO5 x) rfl,ABk];rfl
def wordAt (p:List UInt8) (t:Nat):Nat:=((p.getD (4*t) 0).toNat*2^24%4294967296|||(p.getD (4*t+1) 0).toNat*2^16%4294967296)|||(p.getD (4*t+2) 0).toNat*2^8%4294967296|||(p.getD (4*t+3) 0).toNat
def Jd (p:List UInt8):Nat→Nat→List Nat→List Nat
 |0,_,w=>w
 |n+1,t,w=>Jd p n (t+1) (w.set t (wordAt p t))
theorem L9 (p:List UInt8) (t:Nat):wordAt p t<4294967296:=by
 have h3:(p.getD (4*t+3) 0).toNat<2^32:=Nat.lt_of_lt_of_le (UInt8.toNat_lt _) (by decide)
 refine Nat.or_lt_two_pow (n:=32) (Nat.or_lt_two_pow (n:=32) (Nat.or_lt_two_pow (n:=32) (Nat.mod_lt _ (by decide)) (Nat.mod_lt _ (by decide))) (Nat.mod_lt _ (by decide))) h3
theorem B32.set {l:List Nat} (h:B32 l) (i:Nat) {x:Nat} (hx:x<4294967296):B32 (l.set i x):=by
 intro y hy
 rcases List.mem_or_eq_of_mem_set hy with hy|rfl
 ·exact h y hy
 ·exact hx
theorem XY (p:List UInt8):∀(n t:Nat) (w:List Nat),B32 w→w.length=64→B32 (Jd p n t w)∧(Jd p n t w).length=64
 |0,_,w,h,hl=>⟨h,hl⟩
 |n+1,t,w,h,hl=>XY p n (t+1) _ (h.set t (L9 p t)) (by simp[hl])
theorem MB {p:List UInt8} {i:Nat} (hi:i<p.length):(bytesOf p)[i]?=some (.int .u8 ((p.getD i 0).toNat:Int)):=by
 simp[bytesOf,List.getElem?_map,List.getElem?_eq_getElem hi]
theorem ixB {xs:List V} {f:Fl} {i:Nat} {v:V} (hv:xs[i]?=some v):AX P 172 (.lst 5 f xs) (.int .i64 (i:Int))=some (.rop 5 v):=by
 have hi:=Qd hv
 have:inside (i:Int) xs.length=true:=by simp[inside,hi]
 simp[AX,EC,this,hv]
theorem ixW {xs:List V} {f:Fl} {i:Nat} {v:V} (hv:xs[i]?=some v):AX P 172 (V.weak (.lst 5 f xs)) (.int .i64 (i:Int))=some (.rop 5 v):=by
 cases f<;>exact ixB hv
theorem AIV {h:List V} {f:Fl} {p:List UInt8} {t:Nat} {l:List Nat} (hp:4*t+4≤p.length) (ht:t<64) (hh:h[2]?=some (SH l)) (hl:l.length=64) (K:List V→Option (V×List V)):
 U7 (.ref 2 [] 261) (.int .i64 (t:Int)) (.lst 5 f (((bytesOf p).take (4*t+4)).drop (4*t))) h K=K (h.set 2 (SH (l.set t (wordAt p t)))):=by
 have g:∀j,j<4→(((bytesOf p).take (4*t+4)).drop (4*t))[j]?=some (.int .u8 ((p.getD (4*t+j) 0).toNat:Int)):=by
  intro j hj
  rw[List.getElem?_drop,List.getElem?_take_of_lt (by omega),MB (by omega)]
 have i0:=ixW (f:=f) (g 0 (by omega));have i1:=ixW (f:=f) (g 1 (by omega));have i2:=ixW (f:=f) (g 2 (by omega));have i3:=ixW (f:=f) (g 3 (by omega))
 have b:∀j,(p.getD j 0).toNat<256:=fun j=>UInt8.toNat_lt _
 have c:∀x:Nat,x<256→conv P h 5 203 (.int .u8 (x:Int))=some (.int .u32 (x:Int)):=fun x hx=>by rw[Ce VB,wrap_u32 (by omega) (by omega)]
 have s24:∀x:Nat,AL .shl (.int .u32 (x:Int)) (.int .u64 24)=some (.int .u32 ((x*2^24%4294967296:Nat):Int)):=fun x=>OU (a:=x) 24 (by omega)
 have s16:∀x:Nat,AL .shl (.int .u32 (x:Int)) (.int .u64 16)=some (.int .u32 ((x*2^16%4294967296:Nat):Int)):=fun x=>OU (a:=x) 16 (by omega)
 have s8:∀x:Nat,AL .shl (.int .u32 (x:Int)) (.int .u64 8)=some (.int .u32 ((x*2^8%4294967296:Nat):Int)):=fun x=>OU (a:=x) 8 (by omega)
 have m:∀x:Nat,x%4294967296<4294967296:=fun x=>Nat.mod_lt _ (by decide)
 have o1:=Nat.or_lt_two_pow (n:=32) (m ((p.getD (4*t+0) 0).toNat*2^24)) (m ((p.getD (4*t+1) 0).toNat*2^16))
 have o2:=Nat.or_lt_two_pow (n:=32) o1 (m ((p.getD (4*t+2) 0).toNat*2^8))
 simp only[U7]
 rw[show(0:Int)=((0:Nat):Int)from rfl,show(1:Int)=((1:Nat):Int)from rfl,show(2:Int)=((2:Nat):Int)from rfl,show(3:Int)=((3:Nat):Int)from rfl,i0,i1,i2,i3]
 simp only[Option.bind_some,En,c _ (b _),s24,s16,s8]
 rw[u32_or (m _) (m _)]
 simp only[Option.bind_some]
 rw[u32_or o1 (m _)]
 simp only[Option.bind_some]
 rw[u32_or o2 (by have:=b (4*t+3);omega)]
 simp only[Option.bind_some]
 rw[AL8 ht,Option.bind_some]
 exact(congrArg (fun z=>Option.bind z fun h_1=>K h_1) (AL9 (x:=wordAt p t) hh (by omega))).trans rfl
end
section
open Go AM
def sg0 (x:Nat):Nat:=(EG x 7 ^^^ EG x 18) ^^^ x/2^3
def sg1 (x:Nat):Nat:=(EG x 17 ^^^ EG x 19) ^^^ x/2^10
def ad (a b:Nat):Nat:=(a+b)%4294967296
def Je:Nat→Nat→List Nat→List Nat
 |0,_,w=>w
 |n+1,t,w=>Je n (t+1) (w.set t (ad (ad (ad (w.getD (t-16) 0) (w.getD (t-7) 0)) (sg0 (w.getD (t-15) 0))) (sg1 (w.getD (t-2) 0))))
theorem TS (a b:Nat):ad a b<4294967296:=Nat.mod_lt _ (by decide)
theorem Df {a b:Nat} (ha:a<4294967296) (hb:b<4294967296):a ^^^ b<4294967296:=Nat.xor_lt_two_pow (n:=32) ha hb
theorem AEv {a b:Nat} (ha:a<4294967296) (hb:b<4294967296):a|||b<4294967296:=Nat.or_lt_two_pow (n:=32) ha hb
theorem D6 {a b:Nat} (ha:a<4294967296):a&&& b<4294967296:=Nat.lt_of_le_of_lt Nat.and_le_left ha
theorem JG {a:Nat} (n:Nat) (ha:a<4294967296):a/n<4294967296:=Nat.lt_of_le_of_lt (Nat.div_le_self _ _) ha
theorem Fa (a b:Nat):AL .add (.int .u32 (a:Int)) (.int .u32 (b:Int))=some (.int .u32 (ad a b:Int)):=AIT a b
theorem XZ:∀(n t:Nat) (w:List Nat),B32 w→w.length=64→B32 (Je n t w)∧(Je n t w).length=64
 |0,_,w,h,hl=>⟨h,hl⟩
 |n+1,t,w,h,hl=>XZ n (t+1) _ (h.set t (TS _ _)) (by simp[hl])
def rnd (k:List Nat) (w:List Nat) (t:Nat) (v:List Nat):List Nat:=
 let a:=v.getD 0 0;let b:=v.getD 1 0;let c:=v.getD 2 0;let e:=v.getD 4 0;let f:=v.getD 5 0;let g:=v.getD 6 0
 let x:=ad (ad (ad (ad (v.getD 7 0) ((EG e 6 ^^^ EG e 11) ^^^ EG e 25)) (g ^^^ (e&&& (f ^^^ g)))) (k.getD t 0)) (w.getD t 0)
 let y:=ad ((EG a 2 ^^^ EG a 13) ^^^ EG a 22) ((a&&& b)|||(c&&& (a|||b)))
 [ad x y,a,b,c,ad (v.getD 3 0) x,e,f,g]
def Ql (k w:List Nat):Nat→Nat→List Nat→List Nat
 |0,_,v=>v
 |n+1,t,v=>Ql k w n (t+1) (rnd k w t v)
def MC (v:List Nat):Nat→Nat→List Nat→List Nat
 |0,_,h=>h
 |n+1,i,h=>MC v n (i+1) (h.set i (ad (h.getD i 0) (v.getD i 0)))
def BV:List Nat:=(match Oq with|V.agg _ l=>l|_=>[]).map fun v=>match v with|V.int _ n=>n.toNat|_=>0
theorem AIX:Oq=SH BV:=by kernel_rfl
theorem AKg:BV.length=64:=by kernel_rfl
theorem AKh:B32 BV:=by
 have h:BV.all (fun x=>decide (x<4294967296))=true:=by kernel_rfl
 intro x hx
 have:=List.all_eq_true.1 h x hx
 exact of_decide_eq_true this
def TT (h:List Nat) (p:List UInt8):List Nat:=
 let w:=Je 48 16 (Jd p 16 0 (List.replicate 64 0))
 MC (Ql BV w 64 0 h) 8 0 h
theorem ZB {k w v:List Nat} (hv:B32 v) (t:Nat):B32 (rnd k w t v)∧(rnd k w t v).length=8:=by
 refine⟨?_,rfl⟩
 intro x hx
 simp only[rnd,List.mem_cons,List.not_mem_nil,or_false]at hx
 rcases hx with rfl|rfl|rfl|rfl|rfl|rfl|rfl|rfl<;>first|exact TS _ _|exact hv.get _
theorem ABl {v:List Nat}:∀(n i:Nat) (h:List Nat),B32 h→h.length=8→B32 (MC v n i h)∧(MC v n i h).length=8
 |0,_,h,hb,hl=>⟨hb,hl⟩
 |n+1,i,h,hb,hl=>ABl n (i+1) _ (hb.set i (TS _ _)) (by simp[hl])
theorem TU (h:List V):∀l:List Nat,C9 h (Kq l)=Kq l
 |[]=>rfl
 |x::l=>by simp only[Kq,List.map_cons,C9];rw[show List.map vw l=Kq l from rfl,TU h l];rfl
theorem Xa:∀l:List Nat,AQ (Kq l)=Kq l
 |[]=>rfl
 |x::l=>by simp only[Kq,List.map_cons,AQ];rw[show List.map vw l=Kq l from rfl,Xa l];rfl
theorem TV:∀l:List Nat,AU (Kq l)=true
 |[]=>rfl
 |x::l=>by simp only[Kq,List.map_cons,AU];rw[show List.map vw l=Kq l from rfl,TV l];rfl
theorem Xb (n:Nat):∀l:List Nat,Dq n (Kq l)=true
 |[]=>rfl
 |x::l=>by simp only[Kq,List.map_cons,Dq];rw[show List.map vw l=Kq l from rfl,Xb n l];rfl
theorem FU (n:Nat):∀l:List Nat,AZ n (Kq l)=true
 |[]=>rfl
 |x::l=>by simp only[Kq,List.map_cons,AZ];rw[show List.map vw l=Kq l from rfl,FU n l];rfl
theorem AMB (n:Nat) (h:List V) (l:List Nat):AP n h (A8 l)=some (A8 l,h.take n):=by
 simp only[AP,A8,V.unmut,TU,V.norm,Xa,V.clean,TV,V.over,Xb,Bool.and_self,if_true]
theorem AIY (v:List Nat) (hv:v.length=8) (x w z:V):∀(n i:Nat) (hs:List Nat),i+n=8→hs.length=8→
 OM (.ref 0 [] 247) (.ref 1 [] 247) (A8 v) (.int .i64 (i:Int)) [A8 hs,A8 (List.replicate 8 0),w,z]=some (A8 (MC v n i hs),[]):=by
 intro n
 induction n with
 |zero=>
  intro i hs hi hl
  rw[QW]
  have:¬((i:Int)<8):=by omega
  have l0:AV [A8 hs,A8 (List.replicate 8 0),w,z] 247 (.ref 0 [] 247)=some (A8 hs):=Cf (FX rfl)
  have s1:Gu P [A8 hs,A8 (List.replicate 8 0),w,z] 247 (.ref 1 [] 247) (A8 hs)=some [A8 hs,A8 hs,w,z]:=
   Eo rfl (by simp[Bj,NJ,A8]) (by simp only[A8,V.under];exact FU _ _)
  have l1:AV [A8 hs,A8 hs,w,z] 247 (.ref 1 [] 247)=some (A8 hs):=Cf (FX rfl)
  simp only[QV,XQ,b_lss,Option.bind_some,AEo,this,if_false,l0,s1,l1,AMB,List.take_zero,MC]
 |succ n ih=>
  intro i hs hi hl
  rw[QW]
  have hlt:(i:Int)<8:=by omega
  have ix:Lh P 247 (A8 v) (.int .i64 (i:Int))=some (vw (v.getD i 0)):=by
   have:inside (i:Int) 8=true:=by simp[inside];omega
   simp[Lh,A8,NJ,this,JF (show i<v.length by omega),cp,AEn]
  have l0:AV [A8 hs,A8 (List.replicate 8 0),w,z] 203 (.ref 0 [i] 203)=some (vw (hs.getD i 0)):=ld8 rfl (by omega)
  have s0:Gu P [A8 hs,A8 (List.replicate 8 0),w,z] 203 (.ref 0 [i] 203) (vw (ad (hs.getD i 0) (v.getD i 0)))=some [A8 (hs.set i (ad (hs.getD i 0) (v.getD i 0))),A8 (List.replicate 8 0),w,z]:=st8 rfl (by omega)
  have a0:AL .add (vw (hs.getD i 0)) (vw (v.getD i 0))=some (vw (ad (hs.getD i 0) (v.getD i 0))):=Fa _ _
  simp only[QV,XM,XO,XP,b_lss,Option.bind_some,AEo,hlt,if_true,ix,ix8 (show i<8 by omega),l0,a0,s0,DT]
  rw[show((i:Int)+1)=((i+1:Nat):Int)by omega,wrap_i64 (by omega) (by omega)]
  exact ih (i+1) _ (by omega) (by simp[hl])
theorem ARj {id:Nat} (j:Nat) (hj:j<8):AX P 247 (.ref id [] 247) (.int .i64 (j:Int))=some (.ref id [j] 203):=ix8 hj
theorem at8 {B:Type} {h:List V} {id:Nat} {v:List Nat} (hh:h[id]?=some (A8 v)) (hv:v.length=8) (j:Nat) (hj:j<8) (K:V→Option B):
 (AX P 247 (.ref id [] 247) (.int .i64 (j:Int))).bind (fun a=>(AV h 203 a).bind K)=K (.int .u32 (v.getD j 0:Int)):=by
 rw[ARj j hj,Option.bind_some,ld8 hh (by omega),Option.bind_some];rfl
theorem VE {B:Type} {h:List V} {id:Nat} {v:List Nat} (hh:h[id]?=some (SH v)) (hv:v.length=64) (j:Nat) (hj:j<64) (K:V→Option B):
 (AX P 261 (.ref id [] 261) (.int .i64 (j:Int))).bind (fun a=>(AV h 203 a).bind K)=K (.int .u32 (v.getD j 0:Int)):=by
 rw[AL8 hj,Option.bind_some,ARi hh (by omega),Option.bind_some];rfl
theorem atK {B:Type} {h:List V} (j:Nat) (hj:j<64) (K:V→Option B):
 (AX P 261 (.rop 261 Oq) (.int .i64 (j:Int))).bind (fun a=>(AV h 203 a).bind K)=K (.int .u32 (BV.getD j 0:Int)):=by
 rw[AIX,ixK hj AKg,Option.bind_some,En,Option.bind_some];rfl
theorem trn {B:Type} {h:List V} {x:Nat} (hx:x<4294967296) (m:Nat) (h1:1≤m) (h2:m≤31) (K:V×List V→Option B):
 (Cl 211 (AB h [.int .u32 (x:Int),.int .i64 (m:Int)]) []).bind K=K (.int .u32 (EG x m:Int),[]):=by
 rw[AO4 hx m h1 h2,Option.bind_some]
theorem AA {A B:Type} {o:Option A} {x:A} (h:o=some x) (K:A→Option B):o.bind K=K x:=by rw[h];rfl
theorem GK {B:Type} {k:IntKind} {a b:Int} (h:a<b) (K:V→Option B):(AL .lss (.int k a) (.int k b)).bind K=K (.bool true):=by
 rw[b_lss,Option.bind_some,decide_eq_true h]
theorem Gm {B:Type} {k:IntKind} {a b:Int} (h:¬a<b) (K:V→Option B):(AL .lss (.int k a) (.int k b)).bind K=K (.bool false):=by
 rw[b_lss,Option.bind_some,decide_eq_false h]
theorem BK {B:Type} (a b:Option B):V.ite (.bool true) a b=a:=rfl
theorem BL {B:Type} (a b:Option B):V.ite (.bool false) a b=b:=rfl
theorem AEw {h:List V} {v:List Nat} (hh:h[3]?=some (A8 v)) (hv:v.length=8) (K:V→V→V→V→V→V→Option (V×List V)):
 QO (.ref 3 [] 247) h K=K (vw (v.getD 0 0)) (vw (v.getD 1 0)) (vw (v.getD 2 0)) (vw (v.getD 4 0)) (vw (v.getD 5 0)) (vw (v.getD 6 0)):=by
 unfold QO
 exact(at8 hh hv 0 (by omega) _).trans<|(at8 hh hv 1 (by omega) _).trans<|(at8 hh hv 2 (by omega) _).trans<|(at8 hh hv 4 (by omega) _).trans<|(at8 hh hv 5 (by omega) _).trans<|(at8 hh hv 6 (by omega) _)
def chE (e f g h7 k w:Nat):Nat:=ad (ad (ad (ad h7 ((EG e 6 ^^^ EG e 11) ^^^ EG e 25)) (g ^^^ (e&&& (f ^^^ g)))) k) w
def mjA (a b c:Nat):Nat:=ad ((EG a 2 ^^^ EG a 13) ^^^ EG a 22) ((a&&& b)|||(c&&& (a|||b)))
theorem AEx {h:List V} {v w:List Nat} {t e f g:Nat} (hh:h[3]?=some (A8 v)) (hv:v.length=8) (hw:h[2]?=some (SH w)) (lw:w.length=64) (ht:t<64)
 (be:e<4294967296) (bf:f<4294967296) (bg:g<4294967296) (K:V→Option (V×List V)):
 QR (.ref 2 [] 261) (.ref 3 [] 247) (.int .i64 (t:Int)) (vw e) (vw f) (vw g) h K=K (vw (chE e f g (v.getD 7 0) (BV.getD t 0) (w.getD t 0))):=by
 have r1:=Ah (n:=6) be;have r2:=Ah (n:=11) be;have r3:=Ah (n:=25) be
 unfold QR
 refine(at8 hh hv 7 (by omega) _).trans ?_
 refine(trn be 6 (by omega) (by omega) _).trans<|(trn be 11 (by omega) (by omega) _).trans ?_
 refine(AA (u32_xor r1 r2) _).trans ?_
 refine(trn be 25 (by omega) (by omega) _).trans ?_
 refine(AA (u32_xor (Df r1 r2) r3) _).trans ?_
 refine(AA (Fa _ _) _).trans ?_
 refine(AA (u32_xor bf bg) _).trans ?_
 refine(AA (u32_and be (Df bf bg)) _).trans ?_
 refine(AA (u32_xor bg (D6 be)) _).trans ?_
 refine(AA (Fa _ _) _).trans ?_
 refine(atK t ht _).trans ?_
 refine(AA (Fa _ _) _).trans ?_
 refine(VE hw lw t ht _).trans ?_
 exact AA (Fa _ _) _
theorem AEy {h:List V} {a b c:Nat} (ba:a<4294967296) (bb:b<4294967296) (bc:c<4294967296) (K:V→Option (V×List V)):
 QT (vw a) (vw b) (vw c) h K=K (vw (mjA a b c)):=by
 have r1:=Ah (n:=2) ba;have r2:=Ah (n:=13) ba;have r3:=Ah (n:=22) ba
 unfold QT
 refine(trn ba 2 (by omega) (by omega) _).trans<|(trn ba 13 (by omega) (by omega) _).trans ?_
 refine(AA (u32_xor r1 r2) _).trans ?_
 refine(trn ba 22 (by omega) (by omega) _).trans ?_
 refine(AA (u32_xor (Df r1 r2) r3) _).trans ?_
 refine(AA (u32_and ba bb) _).trans ?_
 refine(AA (u32_or ba bb) _).trans ?_
 refine(AA (u32_and bc (AEv ba bb)) _).trans ?_
 refine(AA (u32_or (D6 ba) (D6 bc)) _).trans ?_
 exact AA (Fa _ _) _
theorem ARl (z0 z1 z2 z3 z4 z5 z6 z7:Nat):bld P 247 [(0,.int .u32 (z0:Int)),(1,.int .u32 (z1:Int)),(2,.int .u32 (z2:Int)),(3,.int .u32 (z3:Int)),(4,.int .u32 (z4:Int)),(5,.int .u32 (z5:Int)),(6,.int .u32 (z6:Int)),(7,.int .u32 (z7:Int))]=some (A8 [z0,z1,z2,z3,z4,z5,z6,z7]):=by
 simp[bld,NJ,Y9,Bv,Bj,AKZ,Bq,VB,cp,AEn,A8,Kq,vw,List.replicate]
theorem AEz {h:List V} {v:List Nat} {a b c e f g x y:Nat} (hh:h[3]?=some (A8 v)) (hv:v.length=8) (K:List V→Option (V×List V)):
 QU (.ref 3 [] 247) (vw a) (vw b) (vw c) (vw e) (vw f) (vw g) (vw x) (vw y) h K=K (h.set 3 (A8 [ad x y,a,b,c,ad (v.getD 3 0) x,e,f,g])):=by
 unfold QU
 refine(AA (Fa _ _) _).trans ?_
 refine(at8 hh hv 3 (by omega) _).trans ?_
 refine(AA (Fa _ _) _).trans ?_
 refine(AA (ARl _ _ _ _ _ _ _ _) _).trans ?_
 exact AA (Eo hh (by simp[Bj,NJ,A8]) (by simp only[A8,V.under];exact FU _ _)) _
theorem AE0 (k w v:List Nat) (t:Nat):rnd k w t v=[ad (chE (v.getD 4 0) (v.getD 5 0) (v.getD 6 0) (v.getD 7 0) (k.getD t 0) (w.getD t 0)) (mjA (v.getD 0 0) (v.getD 1 0) (v.getD 2 0)),v.getD 0 0,v.getD 1 0,v.getD 2 0,
 ad (v.getD 3 0) (chE (v.getD 4 0) (v.getD 5 0) (v.getD 6 0) (v.getD 7 0) (k.getD t 0) (w.getD t 0)),v.getD 4 0,v.getD 5 0,v.getD 6 0]:=rfl
theorem AE1 (k w:List Nat) (n t:Nat) (v:List Nat):Ql k w (n+1) t v=Ql k w n (t+1) (rnd k w t v):=rfl
theorem AIZ (h w:List Nat) (hh:h.length=8) (hw:w.length=64) (bw:B32 w):∀(n t:Nat) (v:List Nat),t+n=64→B32 v→v.length=8→
 OJ (.ref 0 [] 247) (.ref 1 [] 247) (.ref 2 [] 261) (.ref 3 [] 247) (.int .i64 (t:Int)) [A8 h,A8 (List.replicate 8 0),SH w,A8 v]=
  some (A8 (MC (Ql BV w n t v) 8 0 h),[]):=by
 intro n
 induction n with
 |zero=>
  intro t v ht bv hv
  rw[QX]
  have:¬((t:Int)<64):=by omega
  have l3:AV [A8 h,A8 (List.replicate 8 0),SH w,A8 v] 247 (.ref 3 [] 247)=some (A8 v):=Cf (FX rfl)
  simp only[QN,XL,b_lss,Option.bind_some,AEo,this,if_false,l3,Ql]
  exact AIY v hv (A8 v) (SH w) (A8 v) 8 0 h rfl hh
 |succ n ih=>
  intro t v ht bv hv
  rw[QX]
  have hlt:(t:Int)<64:=by omega
  have ht':t<64:=by omega
  rw[QN,GK hlt,BK,XJ]
  rw[AEw rfl hv,AEx rfl hv rfl hw ht' (bv.get 4) (bv.get 5) (bv.get 6),AEy (bv.get 0) (bv.get 1) (bv.get 2),AEz rfl hv,←AE0]
  simp only[XK,DT]
  rw[show((t:Int)+1)=((t+1:Nat):Int)by omega,wrap_i64 (by omega) (by omega),AE1]
  have st:[A8 h,A8 (List.replicate 8 0),SH w,A8 v].set 3 (A8 (rnd BV w t v))=[A8 h,A8 (List.replicate 8 0),SH w,A8 (rnd BV w t v)]:=rfl
  rw[st]
  exact ih (t+1) _ (by omega) (ZB bv t).1 (ZB bv t).2
end
section
open Go AM
theorem IV {B:Type} {a b:Nat} (h:b≤a) (ha:a<2^62) (K:V→Option B):(AL .sub (.int .i64 (a:Int)) (.int .i64 (b:Int))).bind K=K (.int .i64 ((a-b:Nat):Int)):=by
 rw[KW,show(a:Int)-(b:Int)=((a-b:Nat):Int)by omega,wrap_i64 (by omega) (by omega)];rfl
theorem Fb {B:Type} {a b:Nat} (h:a+b<2^62) (K:V→Option B):(AL .add (.int .i64 (a:Int)) (.int .i64 (b:Int))).bind K=K (.int .i64 ((a+b:Nat):Int)):=by
 rw[DT,show(a:Int)+(b:Int)=((a+b:Nat):Int)by omega,wrap_i64 (by omega) (by omega)];rfl
theorem Xc {B:Type} {a b:Nat} (h:a*b<2^62) (K:V→Option B):(AL .mul (.int .i64 (a:Int)) (.int .i64 (b:Int))).bind K=K (.int .i64 ((a*b:Nat):Int)):=by
 rw[TM,←Int.natCast_mul,wrap_i64 (by omega) (by omega)];rfl
theorem AMC {f:Fl} {t s:TypeId} {xs:List V} {a b:Nat} (k:K P s= .slice t) (h1:a≤b) (h2:b≤xs.length):
 NE P s (V.weak (.lst t f xs)) (some (.int .i64 (a:Int))) (some (.int .i64 (b:Int))) none=some (.lst t f.cut ((xs.take b).drop a)):=by
 have e1:(0:Int)≤(b:Int)∧b≤xs.length:=⟨by omega,h2⟩
 have e2:(0:Int)≤(a:Int)∧(a:Int)≤(b:Int):=⟨by omega,by omega⟩
 cases f<;>simp[NE,V.weak,k,Bd,e1,e2,Fl.cut,h1,h2]
section
variable {h:List V} {w:List Nat} {t:Nat}
variable (hw:h[2]?=some (SH w)) (lw:w.length=64) (bw:B32 w) (ht:t<64)
include hw lw bw ht
theorem AE2 (h16:16≤t) (K:V→Option (V×List V)):
 QK (.ref 2 [] 261) (.int .i64 (t:Int)) h K=K (vw (sg0 (w.getD (t-15) 0))):=by
 have b:=bw.get (t-15)
 unfold QK
 refine(IV (b:=15) (by omega) (by omega) _).trans<|(VE hw lw (t-15) (by omega) _).trans<|(trn b 7 (by omega) (by omega) _).trans ?_
 refine(IV (b:=15) (by omega) (by omega) _).trans<|(VE hw lw (t-15) (by omega) _).trans<|(trn b 18 (by omega) (by omega) _).trans ?_
 refine(AA (u32_xor (Ah b) (Ah b)) _).trans ?_
 refine(IV (b:=15) (by omega) (by omega) _).trans<|(VE hw lw (t-15) (by omega) _).trans ?_
 refine(AA (OT 3 (by omega)) _).trans ?_
 exact AA (u32_xor (Df (Ah b) (Ah b)) (JG _ b)) _
theorem AE3 (h16:16≤t) (K:V→Option (V×List V)):
 QL (.ref 2 [] 261) (.int .i64 (t:Int)) h K=K (vw (sg1 (w.getD (t-2) 0))):=by
 have b:=bw.get (t-2)
 unfold QL
 refine(IV (b:=2) (by omega) (by omega) _).trans<|(VE hw lw (t-2) (by omega) _).trans<|(trn b 17 (by omega) (by omega) _).trans ?_
 refine(IV (b:=2) (by omega) (by omega) _).trans<|(VE hw lw (t-2) (by omega) _).trans<|(trn b 19 (by omega) (by omega) _).trans ?_
 refine(AA (u32_xor (Ah b) (Ah b)) _).trans ?_
 refine(IV (b:=2) (by omega) (by omega) _).trans<|(VE hw lw (t-2) (by omega) _).trans ?_
 refine(AA (OT 10 (by omega)) _).trans ?_
 exact AA (u32_xor (Df (Ah b) (Ah b)) (JG _ b)) _
theorem AE4 (h16:16≤t) (x y:Nat) (K:List V→Option (V×List V)):
 QM (.ref 2 [] 261) (.int .i64 (t:Int)) (vw x) (vw y) h K=K (h.set 2 (SH (w.set t (ad (ad (ad (w.getD (t-16) 0) (w.getD (t-7) 0)) x) y)))):=by
 unfold QM
 refine(IV (b:=16) (by omega) (by omega) _).trans<|(VE hw lw (t-16) (by omega) _).trans ?_
 refine(IV (b:=7) (by omega) (by omega) _).trans<|(VE hw lw (t-7) (by omega) _).trans ?_
 refine(AA (Fa _ _) _).trans ?_
 refine(AA (Fa _ _) _).trans ?_
 refine(AA (Fa _ _) _).trans ?_
 refine(AA (AL8 ht) _).trans ?_
 exact AA (AL9 hw (by omega)) _
end
theorem ABm (n t:Nat) (w:List Nat):Je (n+1) t w=Je n (t+1) (w.set t (ad (ad (ad (w.getD (t-16) 0) (w.getD (t-7) 0)) (sg0 (w.getD (t-15) 0))) (sg1 (w.getD (t-2) 0)))):=rfl
theorem AIa (p:List UInt8) (n t:Nat) (w:List Nat):Jd p (n+1) t w=Jd p n (t+1) (w.set t (wordAt p t)):=rfl
theorem AIb (h:List Nat) (hh:h.length=8) (bh:B32 h):∀(n t:Nat) (w:List Nat),t+n=64→16≤t→B32 w→w.length=64→
 OI (.ref 0 [] 247) (.ref 1 [] 247) (.ref 2 [] 261) (.int .i64 (t:Int)) [A8 h,A8 (List.replicate 8 0),SH w]=
  some (A8 (MC (Ql BV (Je n t w) 64 0 h) 8 0 h),[]):=by
 intro n
 induction n with
 |zero=>
  intro t w ht h16 bw lw
  rw[QY,U8,Gm (by omega),BL,XI]
  have z:zero P 247=A8 (List.replicate 8 0):=by rw[Y9];rfl
  have l0:AV [A8 h,A8 (List.replicate 8 0),SH w] 247 (.ref 0 [] 247)=some (A8 h):=Cf (FX rfl)
  rw[l0,z]
  refine(AA (Eo (h:=[A8 h,A8 (List.replicate 8 0),SH w]++[A8 (List.replicate 8 0)]) rfl (by simp[Bj,NJ,A8]) (by simp only[A8,V.under];exact FU _ _)) _).trans ?_
  exact AIZ h w hh lw bw 64 0 h rfl bh hh
 |succ n ih=>
  intro t w ht h16 bw lw
  rw[QY,U8,GK (by omega),BK,AE2 rfl lw bw (by omega) h16,AE3 rfl lw bw (by omega) h16,AE4 rfl lw bw (by omega) h16,XH,ABm]
  refine(Fb (b:=1) (by omega) _).trans ?_
  exact ih (t+1) _ (by omega) (by omega) (bw.set t (TS _ _)) (by simp[lw])
theorem AIc (h:List Nat) (hh:h.length=8) (bh:B32 h) (p:List UInt8) (hp:p.length=64) (f:Fl):∀(n t:Nat) (w:List Nat),t+n=16→B32 w→w.length=64→
 OH (.lst 5 f (bytesOf p)) (.ref 0 [] 247) (.ref 1 [] 247) (.ref 2 [] 261) (.int .i64 (t:Int)) [A8 h,A8 (List.replicate 8 0),SH w]=
  some (A8 (MC (Ql BV (Je 48 16 (Jd p n t w)) 64 0 h) 8 0 h),[]):=by
 intro n
 induction n with
 |zero=>
  intro t w ht bw lw
  rw[QZ,U6,Gm (by omega),BL,ABb]
  exact AIb h hh bh 48 16 w rfl (by omega) bw lw
 |succ n ih=>
  intro t w ht bw lw
  rw[QZ,U6,GK (by omega),BK,ABY,ABZ]
  refine(Xc (a:=4) (by omega) _).trans<|(Xc (a:=4) (by omega) _).trans<|(Fb (b:=4) (by omega) _).trans ?_
  refine(AA (AMC (f:=f) (t:=5) (xs:=bytesOf p) EC (a:=4*t) (b:=4*t+4) (by omega) (by simp[bytesOf];omega)) _).trans ?_
  rw[AIV (by omega) (by omega) rfl lw,ABa,AIa]
  refine(Fb (b:=1) (by omega) _).trans ?_
  exact ih (t+1) _ (by omega) (bw.set t (L9 p t)) (by simp[lw])
theorem AId {h:List Nat} (hh:h.length=8) (bh:B32 h) {p:List UInt8} (hp:p.length=64) (f:Fl):
 Cl 195 [A8 h,.lst 5 f (bytesOf p)] []=some (A8 (TT h p),[]):=by
 have tk:(Bj P 247 (A8 h)&&V.under (List.length ([]:List V)) (A8 h))=true:=by
  simp only[A8,V.under,FU,Bj,NJ];simp
 rw[AIJ,ABV,if_pos tk,ABW,ABX,Y9,ALv]
 have z32:B32 (List.replicate 64 0):=fun x hx=>by rw[List.eq_of_mem_replicate hx];decide
 exact AIc h hh bh p hp f 16 0 (List.replicate 64 0) rfl z32 rfl
end
section
open Go AM
section
variable {B:Type} {s e u:TypeId} {f:Fl} {xs:List V} {h:List V}
theorem IW:∃g,V.weak (.lst e f xs)= .lst e g xs:=by cases f<;>exact⟨_,rfl⟩
theorem ACt (hu:P.underlying s=some (.slice u)) (K:V→Option B):(lenV P s (.lst e f xs)).bind K=K (.int .i64 (xs.length:Int)):=by
 simp[lenV,hu]
theorem ZC (hu:P.underlying s=some (.slice u)) (K:V→Option B):(lenV P s (V.weak (.lst e f xs))).bind K=K (.int .i64 (xs.length:Int)):=by
 obtain⟨g,hg⟩:=IW (e:=e) (f:=f) (xs:=xs);rw[hg];exact ACt hu K
theorem ACu (hk:K P s= .slice e) {i:Nat} {v:V} (hv:xs[i]?=some v) (K:V→Option B):
 (AX P s (.lst e f xs) (.int .i64 (i:Int))).bind K=K (.rop e v):=by
 have hi:=Qd hv
 have:inside (i:Int) xs.length=true:=by simp[inside,hi]
 simp[AX,hk,this,hv]
theorem ACv (hk:K P s= .slice e) {i:Nat} {v:V} (hv:xs[i]?=some v) (K:V→Option B):
 (AX P s (V.weak (.lst e f xs)) (.int .i64 (i:Int))).bind K=K (.rop e v):=by
 obtain⟨g,hg⟩:=IW (e:=e) (f:=f) (xs:=xs);rw[hg];exact ACu hk hv K
theorem ldR {v:V} (K:V→Option B):(AV h e (.rop e v)).bind K=K v:=by rw[En];rfl
theorem AIe {v:V} (K:V→Option B):(CW h e (.rop e v)).bind K=K v.weak:=by rw[CW,En];rfl
theorem ACw (hk:K P s= .slice e) (hf:f= .own∨f= .nil) {y:V} {ys:List V} (hy:Ac h y=some ys) (hc:AU ys=true) (ht:GL P e ys=true) (hl:xs.length+ys.length≤2147483648) (hn:Ba P depth e=false) (hne:f= .nil→ys.isEmpty=false:=by first|(intro h;cases h;done)|(intro _;rfl)):
 Du P s h (.lst e f xs) y=some (.lst e .own (xs++ys)):=by
 rcases hf with rfl|rfl
 ·simp[Du,hk,hy,hc,ht,hl,Dp,Dc,hn]
 ·have:=hne rfl
  cases ys with
  |nil=>cases this
  |cons y0 ys0=>simp[Du,hk,hy,hc,ht,hl,Dp,Dc,hn]<;>exact decide_eq_true (by simpa using hl)
theorem AE5 (hk:K P s= .slice e) {v:V} (ht:Bj P e v=true) (hc:v.clean=true) (hn:Ba P depth e=false) (hz:∃z,zero P e=z):
 CS P s 1 [(0,v)]=some (.lst e .own [v]):=by
 simp[CS,hk,Bv,ht,List.replicate,cp,hn,AU,hc,Dc]
end
def bL (f:Fl) (l:List UInt8):V:= .lst 5 f (bytesOf l)
theorem Af (l:List UInt8):(bytesOf l).length=l.length:=by simp[bytesOf]
theorem GV (a b:List UInt8):bytesOf (a++b)=bytesOf a++bytesOf b:=by simp[bytesOf]
theorem bytesOf_take (n:Nat) (a:List UInt8):(bytesOf a).take n=bytesOf (a.take n):=by simp[bytesOf,List.map_take]
theorem bytesOf_drop (n:Nat) (a:List UInt8):(bytesOf a).drop n=bytesOf (a.drop n):=by simp[bytesOf,List.map_drop]
theorem CP:∀l:List UInt8,AU (bytesOf l)=true
 |[]=>rfl
 |x::l=>by simp only[bytesOf,List.map_cons,AU];rw[show List.map _ l=bytesOf l from rfl,CP l];rfl
theorem OV (x:Int):Bj P 5 (.int .u8 x)=true:=by simp[Bj,K_5,Bq,Qa]
theorem GX (l:List UInt8):GL P 5 (bytesOf l)=true:=by
 simp[GL,bytesOf,OV]
theorem Jf {B:Type} {f:Fl} {l:List UInt8} (K':V→Option B):(lenV P 172 (V.weak (bL f l))).bind K'=K' (.int .i64 (l.length:Int)):=by
 rw[bL,ZC JD,Af]
theorem AO6 {B:Type} {f:Fl} {l:List UInt8} (K':V→Option B):(lenV P 172 (bL f l)).bind K'=K' (.int .i64 (l.length:Int)):=by
 rw[bL,ACt JD,Af]
theorem AMD {f:Fl} {h:List V} {l m:List UInt8} {g:Fl} (hf:f= .own∨f= .nil) (hl:l.length+m.length≤2147483648) (hne:f= .nil→m.isEmpty=false:=by first|(intro h;cases h;done)|(intro _;rfl)):
 Du P 172 h (bL f l) (bL g m)=some (bL .own (l++m)):=by
 rw[bL,ACw EC hf (y:=bL g m) (ys:=bytesOf m) rfl (CP m) (GX m) (by simpa [Af]using hl) XR (fun h=>by have:=hne h;cases m<;>first|(cases this;done)|rfl),bL,GV]
theorem AE6 (x:Nat) (hx:x<256):CS P 172 1 [(0,.int .u8 (x:Int))]=some (bL .own [UInt8.ofNat x]):=by
 rw[AE5 EC (OV _) rfl XR ⟨_,rfl⟩,bL]
 simp[bytesOf,Nat.mod_eq_of_lt hx]
theorem app1 {B:Type} {f:Fl} {h:List V} {l:List UInt8} (hf:f= .own∨f= .nil) (hl:l.length+1≤2147483648) (x:Nat) (hx:x<256) (K':V→Option B):
 (CS P 172 1 [(0,.int .u8 (x:Int))]).bind (fun y=>(Du P 172 h (bL f l) y).bind K')=K' (bL .own (l++[UInt8.ofNat x])):=by
 rw[AE6 x hx]
 exact AA (AMD hf (by simpa using hl) (fun _=>rfl)) K'
end
section
open Go AM
def part (p:Fl×List UInt8):V:=bL p.1 p.2
def parts (L:List (Fl×List UInt8)):List V:=L.map part
def flat (L:List (Fl×List UInt8)):List UInt8:=(L.map (·.2)).flatten
theorem Fe:∀l:List UInt8,AQ (bytesOf l)=bytesOf l
 |[]=>rfl
 |x::l=>by simp only[bytesOf,List.map_cons,AQ];rw[show List.map _ l=bytesOf l from rfl,Fe l];rfl
theorem TW {L:List (Fl×List UInt8)} {i:Nat} (hi:i<L.length):(parts L)[i]?=some (part L[i]):=by
 simp[parts,hi]
theorem JH (p:Fl×List UInt8):∃g,(part p).weak=bL g p.2:=by
 obtain⟨f,l⟩:=p;exact IW
theorem AE7 {s e:TypeId} {id off len a:Nat} {p:List Nat} (k:K P s= .slice e) (h1:a≤len):
 NE P s (V.weak (.win id p off len e)) (some (.int .i64 (a:Int))) none none=some (.win id p (off+a) (len-a) e):=by
 have e2:(0:Int)≤(a:Int)∧(a:Int)≤(len:Int):=⟨by omega,by omega⟩
 simp[NE,V.weak,k,Bd,e2,h1]
theorem ZE {e:TypeId} {s:TypeId} {off len:Nat} {xs ys:List V} {y:V} (k:K P s= .slice e) (hy:Ac [.row e xs] y=some ys) (hc:AU ys=true) (ht:GL P e ys=true) (hn:Ba P depth e=false) (hl:ys.length≤len):
 cpy P s [.row e xs] (.win 0 [] off len e) y=some (.int .i64 (ys.length:Int),[.row e (xs.take off++ys++xs.drop (off+ys.length))]):=by
 have m:min ys.length len=ys.length:=by omega
 simp[cpy,FK,k,hy,hc,ht,rd,V.at,V.items,wr,V.upd,Dc,hn,m]
theorem Jz (p:Fl×List UInt8) (L:List (Fl×List UInt8)):flat (p::L)=p.2++flat L:=rfl
theorem AIf (fs:Fl) (L:List (Fl×List UInt8)) (hL:L.length<2147483648) (f:Fl) (N:Nat) (hN:N<2147483648) (h0:0<N):∀(n i:Nat) (done:List UInt8),i+n=L.length→N=done.length+(flat (L.drop i)).length→
 OG (.lst 5 fs []) (.win 0 [] 0 N 5) (.int .i64 (done.length:Int)) (.lst 172 f (parts L)) (.int .i64 (L.length:Int)) (.int .i64 (i:Int)) [.row 5 (bytesOf done++List.replicate (N-done.length) .undef)]=
  some (bL .own (done++flat (L.drop i)),[]):=by
 intro n
 induction n with
 |zero=>
  intro i done hi hn
  have hd:L.drop i=[]:=by simp;omega
  rw[hd]at hn⊢
  simp only[flat,List.map_nil,List.flatten_nil,List.length_nil,Nat.add_zero,List.append_nil]at hn⊢
  subst hn
  rw[QI,QH,Gm (by omega),BL,XG]
  have c:Ac [V.row 5 (bytesOf done)] (.win 0 [] 0 done.length 5)=some (bytesOf done):=by
   simp[Ac,rd,V.at,V.items,Af]
   rw[List.take_of_length_le (by simp[Af])]
  simp[SE,c,CP,Fe,bL,Nat.ble,Nat.blt,Nat.ble_eq]
  exact List.ne_nil_of_length_pos h0
 |succ n ih=>
  intro i done hi hn
  have hlt:i<L.length:=by omega
  rw[QI,QH,GK (by omega),BK,XC]
  refine(ACu Qb (TW hlt) _).trans<|(AIe _).trans ?_
  obtain⟨g,hg⟩:=JH L[i]
  rw[hg]
  rw[XD]
  refine(AA (AE7 EC (by omega)) _).trans ?_
  refine(AA (ZE (ys:=[]) EC (by cases fs<;>rfl) rfl rfl XR (Nat.zero_le _)) _).trans ?_
  refine(Fb (b:=0) (by simp;omega) _).trans ?_
  simp only[List.length_nil,Nat.add_zero,Nat.zero_add,List.append_nil,List.take_append_drop]
  rw[XE]
  have hd:flat (L.drop i)=L[i].2++flat (L.drop (i+1)):=by rw[List.drop_eq_getElem_cons hlt,Jz]
  rw[hd]at hn⊢
  rw[List.length_append]at hn
  refine(AA (AE7 EC (by omega)) _).trans ?_
  refine(AA (ZE (ys:=bytesOf L[i].2) EC rfl (CP _) (GX _) XR (by rw[Af];omega)) _).trans ?_
  rw[Af]
  refine(Fb (by omega) _).trans ?_
  rw[XF]
  refine(Fb (b:=1) (by omega) _).trans ?_
  have:=ih (i+1) (done++L[i].2) (by omega) (by simp;omega)
  rw[List.append_assoc,List.length_append]at this
  rw[←this]
  congr 1
  simp[GV,Af,List.take_append,List.drop_append,List.take_of_length_le,List.drop_eq_nil_of_le]
  omega
theorem ARm {R:Type} {n:Nat} {h:List V} (hn:n≤2147483648) (k:V→List V→Option R):mnz P 0 210 [.int .i64 (n:Int)] h k=k (.win h.length [] 0 n 5) (h++[.row 5 (List.replicate n .undef)]):=by
 have:(0:Nat)=0∧(0:Int)≤(n:Int)∧(n:Int)≤(Dp:Int):=⟨rfl,by omega,by simp only[Dp];omega⟩
 unfold mnz
 refine(if_pos this).trans ?_
 have key:∀e:TypeId,e=5→k (.win h.length [] 0 (n:Int).toNat e) (h++[.row e (List.replicate (n:Int).toNat .undef)])=k (.win h.length [] 0 n 5) (h++[.row 5 (List.replicate n .undef)]):=by rintro _ rfl;rfl
 exact key _ (by kernel_rfl)
theorem AIg {s e:TypeId} {id off len b:Nat} {p:List Nat} (k:K P s= .slice e) (h1:b≤len):
 NE P s (.win id p off len e) none (some (.int .i64 (b:Int))) (some (.int .i64 (b:Int)))=some (.win id p off b e):=by
 have e2:(0:Int)≤(b:Int)∧(b:Int)≤(len:Int):=⟨by omega,by omega⟩
 simp[NE,V.weak,k,Bd,e2,h1]
theorem AIh (fs:Fl) (L:List (Fl×List UInt8)) (hL:L.length<2147483648) (hL0:0<L.length) (f:Fl) (hN:(flat L).length<2147483648) (h0:0<(flat L).length):∀(n i acc:Nat),i+n=L.length→acc+(flat (L.drop i)).length=(flat L).length→
 OE (.lst 172 f (parts L)) (.lst 5 fs []) (.int .i64 (acc:Int)) (V.weak (.lst 172 f (parts L))) (.int .i64 (L.length:Int)) (.int .i64 (i:Int)) []=
  some (bL .own (flat L),[]):=by
 intro n
 induction n with
 |zero=>
  intro i acc hi hn
  have hd:L.drop i=[]:=by simp;omega
  rw[hd]at hn
  have e0:(flat ([]:List (Fl×List UInt8))).length=0:=rfl
  rw[QJ,QG,Gm (by omega),BL,W9]
  have hacc:acc=(flat L).length:=by omega
  subst hacc
  rw[ARm (by omega)]
  refine(AA (AIg EC (Nat.le_refl _)) _).trans ?_
  obtain⟨p,L',rfl⟩:=List.exists_cons_of_length_pos hL0
  rw[XA]
  refine(ACv (i:=0) (v:=part p) Qb rfl _).trans<|(AIe _).trans ?_
  obtain⟨g,hg⟩:=JH p
  rw[hg]
  refine(AA (ZE (ys:=bytesOf p.2) EC rfl (CP _) (GX _) XR (by rw[Af,Jz,List.length_append];omega)) _).trans ?_
  rw[XB]
  have sl:NE P 245 (.lst 172 f (parts (p::L'))) (some (.int .i64 1)) none none=some (.lst 172 f.cut (parts L')):=by
   have e1:(1:Int)≤((parts L').length:Int)+1:=by omega
   simp[NE,Qb,Bd,parts,e1]
   constructor
   ·omega
   ·rw[List.take_of_length_le (by simp)]
  refine(AA sl _).trans ?_
  refine(ACt OO _).trans ?_
  have:=AIf fs L' (by simp at hL;omega) f.cut (flat (p::L')).length hN h0 L'.length 0 p.2 (by omega) (by rw[Jz,List.length_append];rfl)
  simp only[List.drop_zero]at this
  rw[←Jz]at this
  refine Eq.trans ?_ this
  simp only[parts,List.length_map,Af,List.length_nil,List.nil_append,List.take_zero,Nat.zero_add,List.drop_replicate]
  rfl
 |succ n ih=>
  intro i acc hi hn
  have hlt:i<L.length:=by omega
  have hd:flat (L.drop i)=L[i].2++flat (L.drop (i+1)):=by rw[List.drop_eq_getElem_cons hlt,Jz]
  rw[hd,List.length_append]at hn
  rw[QJ,QG,GK (by omega),BK,Wu]
  refine(ACv Qb (TW hlt) _).trans<|(AIe _).trans ?_
  obtain⟨g,hg⟩:=JH L[i]
  rw[hg,Wv]
  refine Jf _ |>.trans ?_
  refine(AA (KW _ _ _) _).trans ?_
  rw[wrap_i64 (by omega) (by omega)]
  refine(AA (b_gtr _ _ _) _).trans ?_
  rw[decide_eq_false (by omega),BL,Wx]
  refine AO6 _ |>.trans ?_
  refine(Fb (by omega) _).trans ?_
  rw[Wy]
  refine(Fb (b:=1) (by omega) _).trans ?_
  exact ih (i+1) (acc+L[i].2.length) (by omega) (by omega)
theorem AIi (fs:Fl) (L:List (Fl×List UInt8)) (hL:L.length<2147483648) (f:Fl) (hN:(flat L).length<2147483648) (h0:0<(flat L).length):
 Cl 194 [.lst 172 f (parts L),.lst 5 fs []] []=some (bL .own (flat L),[]):=by
 have hL0:0<L.length:=by
  cases L with
  |nil=>cases h0
  |cons=>simp
 have lp:(parts L).length=L.length:=by simp[parts]
 rw[AII,ABP,ABQ]
 refine(ZC OO _).trans ?_
 rw[lp]
 refine(AA (b_eql _ _ _) _).trans ?_
 rw[decide_eq_false (by omega),BL,ABR]
 refine(ZC OO _).trans ?_
 rw[lp]
 refine(AA (b_eql _ _ _) _).trans ?_
 by_cases h1:L.length=1
 ·rw[decide_eq_true (by omega),BK,ABS]
  match L,h1 with
  |[p],_=>
   refine(ACu (i:=0) (v:=part p) Qb rfl _).trans<|(AIe _).trans ?_
   obtain⟨g,hg⟩:=JH p
   have e:flat [p]=p.2:=by simp[flat]
   rw[e]at hN h0⊢
   rw[hg]
   have a:=AMD (f:= .nil) (h:=[]) (l:=[]) (m:=p.2) (g:=g) (Or.inr rfl) (by simp;omega) (fun _=>by cases hp:p.2 with|nil=>rw[hp]at h0;simp at h0|cons=>rfl)
   refine(AA a _).trans ?_
   refine(AA (show DN [] (bL .own ([]++p.2))=some (.win 0 [] 0 p.2.length 5,[.row 5 (bytesOf p.2)])by simp[DN,bL,Af]) _).trans ?_
   have c:Ac [V.row 5 (bytesOf p.2)] (.win 0 [] 0 p.2.length 5)=some (bytesOf p.2):=by
    simp[Ac,rd,V.at,V.items,Af]
    rw[List.take_of_length_le (by simp[Af])]
   simp[SE,c,CP,Fe,bL,Nat.ble,Nat.blt,Nat.ble_eq]
   exact List.ne_nil_of_length_pos h0
 ·rw[decide_eq_false (by omega),BL,ABT,ABU]
  refine(ZC JD _).trans ?_
  refine(AA (b_gtr _ _ _) _).trans ?_
  simp only[jn,List.length_nil]
  rw[decide_eq_false (by omega),BL,Ws]
  refine(ZC OO _).trans ?_
  rw[lp]
  exact AIh fs L hL hL0 f hN h0 L.length 0 0 (by omega) (by simp)
end
section
open Go AM
def MF (n:Nat):Nat:=(120-n%64)%64
def lb (n i:Nat):UInt8:=UInt8.ofNat (n/2^(56-8*i)%256)
def Gx (n:Nat):Nat→Nat→List UInt8
 |0,_=>[]
 |k+1,i=>lb n i::Gx n k (i+1)
def AE8 (l:List UInt8):List UInt8:=(l++[128])++List.replicate (MF (l.length+1)) 0++Gx (8*l.length) 8 0
def blocks:Nat→List Nat→List UInt8→List Nat
 |0,h,_=>h
 |n+1,h,p=>blocks n (TT h (p.take 64)) (p.drop 64)
def dg (st:List Nat) (i:Nat):UInt8:=UInt8.ofNat (st.getD (i/4) 0/2^(24-8*(i%4))%256)
def Ff (st:List Nat):Nat→Nat→List UInt8→List UInt8
 |0,_,w=>w
 |n+1,i,w=>Ff st n (i+1) (w.set i (dg st i))
def ER:List Nat:=(match Sm with|V.agg _ l=>l|_=>[]).map fun v=>match v with|V.int _ n=>n.toNat|_=>0
def AO7 (l:List UInt8):List Nat:=blocks ((AE8 l).length/64) ER (AE8 l)
def Xd (l:List UInt8):List UInt8:=Ff (AO7 l) 32 0 (List.replicate 32 0)
def BR (l:List UInt8):V:= .agg 65 (bytesOf l)
theorem AIj:Sm=A8 ER:=by kernel_rfl
theorem AE9:ER.length=8:=by kernel_rfl
theorem AKi:B32 ER:=by
 have h:ER.all (fun x=>decide (x<4294967296))=true:=by kernel_rfl
 intro x hx
 have:=List.all_eq_true.1 h x hx
 exact of_decide_eq_true this
theorem Kr {h:List Nat} (p:List UInt8) (bh:B32 h) (hh:h.length=8):B32 (TT h p)∧(TT h p).length=8:=ABl _ _ _ bh hh
theorem TY (st:List Nat):∀(n i:Nat) (w:List UInt8),(Ff st n i w).length=w.length
 |0,_,_=>rfl
 |n+1,i,w=>by rw[Ff,TY st n];simp
theorem OW (l:List UInt8):(Xd l).length=32:=by rw[Xd,TY];rfl
theorem ACx (l:List UInt8) (i:Nat) (x:UInt8):(bytesOf l).set i (.int .u8 (x.toNat:Int))=bytesOf (l.set i x):=by
 simp[bytesOf,List.map_set]
theorem AO8 (x:Nat) (hx:x<256):(V.int .u8 (x:Int))= .int .u8 ((UInt8.ofNat x).toNat:Int):=by
 simp[Nat.mod_eq_of_lt hx]
theorem NK (n:Nat):∀l:List UInt8,AZ n (bytesOf l)=true
 |[]=>rfl
 |x::l=>by simp only[bytesOf,List.map_cons,AZ];rw[show List.map _ l=bytesOf l from rfl,NK n l];rfl
theorem Qm (n:Nat):∀l:List UInt8,Dq n (bytesOf l)=true
 |[]=>rfl
 |x::l=>by simp only[bytesOf,List.map_cons,Dq];rw[show List.map _ l=bytesOf l from rfl,Qm n l];rfl
theorem NM (h:List V):∀l:List UInt8,C9 h (bytesOf l)=bytesOf l
 |[]=>rfl
 |x::l=>by simp only[bytesOf,List.map_cons,C9];rw[show List.map _ l=bytesOf l from rfl,NM h l];rfl
theorem NP (h:List V):∀l:List UInt8,AB h (bytesOf l)=bytesOf l
 |[]=>rfl
 |x::l=>by simp only[bytesOf,List.map_cons,AB];rw[show List.map _ l=bytesOf l from rfl,NP h l];rfl
theorem Tc (h:List V):∀l:List Nat,AB h (Kq l)=Kq l
 |[]=>rfl
 |x::l=>by simp only[Kq,List.map_cons,AB];rw[show List.map vw l=Kq l from rfl,Tc h l];rfl
theorem AFA (h:List V) (l:List Nat):V.reify h (A8 l)=A8 l:=by simp only[A8,V.reify,Tc]
theorem Xe (h:List V) (f:Fl) (l:List UInt8):∃g,V.reify h (bL f l)=bL g l:=by
 cases f<;>simp only[bL,V.reify,NP]<;>exact⟨_,rfl⟩
theorem VF (n:Nat) (h:List V) (l:List UInt8):AP n h (BR l)=some (BR l,h.take n):=by
 simp only[AP,BR,V.unmut,NM,V.norm,Fe,V.clean,CP,V.over,Qm,Bool.and_self,if_true]
theorem AIk:zero P 66=BR (List.replicate 32 0):=by rw[AOS];rfl
theorem ABn (l:List UInt8):Bj P 66 (BR l)=true:=by simp[Bj,ALt,BR]
theorem ABo (n:Nat) (l:List UInt8):(BR l).under n=true:=by simp only[BR,V.under];exact NK _ _
theorem AO9 (l:List Nat):Bj P 247 (A8 l)=true:=by simp[Bj,NJ,A8]
theorem APA (n:Nat) (l:List Nat):(A8 l).under n=true:=by simp only[A8,V.under];exact FU _ _
theorem ARn {id i:Nat} (hi:i<32):AX P 66 (.ref id [] 66) (.int .i64 (i:Int))=some (.ref id [i] 5):=by
 have:inside (i:Int) 32=true:=by simp[inside];omega
 simp[AX,ALt,this]
theorem ARo {h:List V} {id i x:Nat} {l:List UInt8} (hh:h[id]?=some (BR l)) (hi:i<l.length) (hx:x<256):Gu P h 5 (.ref id [i] 5) (.int .u8 (x:Int))=some (h.set id (BR (l.set i (UInt8.ofNat x)))):=by
 rw[OQ hh (MB hi) (OV _) rfl,AO8 x hx,ACx];rfl
theorem AME {h:List V} {st:List Nat} {w:List UInt8} {i:Nat} (hs:h[1]?=some (A8 st)) (hst:st.length=8) (hw:h[2]?=some (BR w)) (lw:w.length=32) (hi:i<32) (K:List V→Option (V×List V)):
 P8 (.ref 1 [] 247) (.ref 2 [] 66) (.int .i64 (i:Int)) h K=K (h.set 2 (BR (w.set i (dg st i)))):=by
 unfold P8
 refine(AA (XT _ _ _ (by omega)) _).trans ?_
 rw[show(i:Int).tdiv 4=((i/4:Nat):Int)by rfl,wrap_i64 (by omega) (by omega)]
 refine(at8 hs hst (i/4) (by omega) _).trans ?_
 refine(AA (KX _ _ _ (by omega)) _).trans ?_
 rw[show(i:Int).tmod 4=((i%4:Nat):Int)by rfl]
 refine(Xc (a:=8) (by omega) _).trans<|(IV (a:=24) (by omega) (by omega) _).trans ?_
 refine(AA (Ce VA ..) _).trans ?_
 rw[wrap_u64 (by omega) (by omega)]
 refine(AA (OT _ (by omega)) _).trans ?_
 refine(AA (Ce Qa ..) _).trans ?_
 rw[IQ]
 refine(AA (ARn hi) _).trans ?_
 exact AA (ARo hw (by omega) (Nat.mod_lt _ (by decide))) _
theorem APB {st:List Nat} (hst:st.length=8) (z:List UInt8):∀(n i:Nat) (w:List UInt8),i+n=32→w.length=32→
 OA (.ref 0 [] 66) (.ref 1 [] 247) (.ref 2 [] 66) (.int .i64 (i:Int)) [BR z,A8 st,BR w]=some (BR (Ff st n i w),[]):=by
 intro n
 induction n with
 |zero=>
  intro i w hi hw
  rw[P9,P7,Gm (by omega),BL,Wq]
  refine(AA (Cf (v:=BR w) (FX rfl)) _).trans ?_
  refine(AA (Eo (w:=BR z) rfl (ABn _) (ABo _ _)) _).trans ?_
  refine(AA (Cf (v:=BR w) (FX rfl)) _).trans ?_
  exact VF _ _ _
 |succ n ih=>
  intro i w hi hw
  rw[P9,P7,GK (by omega),BK,Wn,AME rfl hst rfl hw (by omega),Wp]
  refine(Fb (b:=1) (by omega) _).trans ?_
  exact ih (i+1) _ (by omega) (by simp[hw])
theorem APC:∀(n:Nat) (f:Fl) (p:List UInt8) (st:List Nat),p.length=64*n→p.length<2147483648→B32 st→st.length=8→
 N9 (.ref 0 [] 66) (bL f p) (.ref 1 [] 247) [BR (List.replicate 32 0),A8 st]=some (BR (Ff (blocks n st p) 32 0 (List.replicate 32 0)),[]):=by
 intro n
 induction n with
 |zero=>
  intro f p st hp hlt bs hst
  rw[QA,P6]
  refine Jf _ |>.trans ?_
  refine(AA (b_gtr _ _ _) _).trans ?_
  rw[decide_eq_false (by omega),BL,Wj,Wl,AIk]
  exact APB hst _ 32 0 _ rfl rfl
 |succ n ih=>
  intro f p st hp hlt bs hst
  rw[QA,P6]
  refine Jf _ |>.trans ?_
  refine(AA (b_gtr _ _ _) _).trans ?_
  rw[decide_eq_true (by omega),BK,Wh]
  refine(AA (Cf (v:=A8 st) (FX rfl)) _).trans ?_
  have sl:NE P 172 (V.weak (bL f p)) none (some (.int .i64 64)) none=some (bL f.cut (p.take 64)):=by
   have:=AMC (f:=f) (t:=5) (xs:=bytesOf p) EC (a:=0) (b:=64) (by omega) (by rw[Af];omega)
   rw[List.drop_zero,bytesOf_take]at this
   rw[bL,bL,←this]
   obtain⟨g,hg⟩:=IW (e:=5) (f:=f) (xs:=bytesOf p)
   rw[hg]
   have e1:(64:Int)≤p.length:=by omega
   simp[NE,EC,Bd,Af,e1]
  refine(AA sl _).trans ?_
  obtain⟨g,hg⟩:=Xe [BR (List.replicate 32 0),A8 st] f.cut (p.take 64)
  have e:AB [BR (List.replicate 32 0),A8 st] [A8 st,bL f.cut (p.take 64)]=[A8 st,bL g (p.take 64)]:=by
   simp only[AB,AFA,hg]
  rw[e]
  refine(AA (AId hst bs (by rw[List.length_take];omega) g) _).trans ?_
  refine(AA (Eo (w:=A8 st) rfl (AO9 _) (APA _ _)) _).trans ?_
  rw[Wi]
  have sl2:NE P 172 (bL f p) (some (.int .i64 64)) none none=some (bL f.cut (p.drop 64)):=by
   have e1:(64:Int)≤p.length:=by omega
   simp[NE,bL,EC,Bd,Af,e1,bytesOf_drop]
   rw[List.take_of_length_le (by rw[Af];omega),bytesOf_drop]
  refine(AA sl2 _).trans ?_
  exact ih f.cut (p.drop 64) (TT st (p.take 64)) (by rw[List.length_drop];omega) (by rw[List.length_drop];omega) (Kr _ bs hst).1 (Kr _ bs hst).2
theorem APD (N:Nat) (hN:N<2147483648):∀(n i:Nat) (p:List UInt8),i+n=8→(p.length+n)%64=0→p.length<2147483000→
 N8 (.ref 0 [] 66) (bL .own p) (.int .u64 ((8*N:Nat):Int)) (.int .i64 (i:Int)) [BR (List.replicate 32 0)]=
  some (BR (Ff (blocks ((p++Gx (8*N) n i).length/64) ER (p++Gx (8*N) n i)) 32 0 (List.replicate 32 0)),[]):=by
 intro n
 induction n with
 |zero=>
  intro i p hi hp hl
  rw[QB,U4,Gm (by omega),BL,WZ,AIj]
  refine(AA En _).trans ?_
  refine(AA (Eo (w:=zero P 247) rfl (AO9 _) (APA _ _)) _).trans ?_
  simp only[Gx,List.append_nil]
  exact APC (p.length/64) .own p ER (by omega) (by omega) AKi AE9
 |succ n ih=>
  intro i p hi hp hl
  rw[QB,U4,GK (by omega),BK,AA7,AA8]
  refine(Xc (a:=8) (by omega) _).trans<|(IV (a:=56) (by omega) (by omega) _).trans ?_
  refine(AA (Ce VA ..) _).trans ?_
  rw[wrap_u64 (by omega) (by omega)]
  have hs:AL .shr (.int .u64 ((8*N:Nat):Int)) (.int .u64 ((56-8*i:Nat):Int))=some (.int .u64 ((8*N/2^(56-8*i):Nat):Int)):=by
   rw[XU _ _ _ _ (by omega)]
   have:min (((56-8*i:Nat):Int)).toNat (IntKind.u64).bits=56-8*i:=by simp[IntKind.bits];omega
   rw[this,Qk]
  refine(AA hs _).trans ?_
  refine(AA (Ce Qa ..) _).trans ?_
  rw[IQ]
  refine(app1 (Or.inl rfl) (by omega) _ (Nat.mod_lt _ (by decide)) _).trans ?_
  rw[WY]
  refine(Fb (b:=1) (by omega) _).trans ?_
  have:=ih (i+1) (p++[lb (8*N) i]) (by omega) (by simp;omega) (by simp;omega)
  rw[List.append_assoc,List.singleton_append]at this
  exact this
theorem APE (N:Nat) (hN:N<2147483648):∀(n:Nat) (p:List UInt8),MF p.length=n→p.length+n<2147482000→
 N7 (.ref 0 [] 66) (bL .own p) (.int .u64 ((8*N:Nat):Int)) [BR (List.replicate 32 0)]=
  some (BR (Ff (blocks ((p++List.replicate n 0++Gx (8*N) 8 0).length/64) ER (p++List.replicate n 0++Gx (8*N) 8 0)) 32 0 (List.replicate 32 0)),[]):=by
 intro n
 induction n with
 |zero=>
  intro p hp hl
  rw[QC,U3]
  refine Jf _ |>.trans ?_
  refine(AA (KX _ _ _ (by omega)) _).trans ?_
  rw[show(p.length:Int).tmod 64=((p.length%64:Nat):Int)by rfl]
  refine(AA (b_neq _ _ _) _).trans ?_
  simp only[MF]at hp
  rw[decide_eq_false (by omega),BL,AA6,List.replicate_zero,List.append_nil]
  exact APD N hN 8 0 p rfl (by omega) (by omega)
 |succ n ih=>
  intro p hp hl
  rw[QC,U3]
  refine Jf _ |>.trans ?_
  refine(AA (KX _ _ _ (by omega)) _).trans ?_
  rw[show(p.length:Int).tmod 64=((p.length%64:Nat):Int)by rfl]
  refine(AA (b_neq _ _ _) _).trans ?_
  simp only[MF]at hp
  rw[decide_eq_true (by omega),BK,AA5]
  refine(app1 (Or.inl rfl) (by omega) 0 (by omega) _).trans ?_
  have:=ih (p++[0]) (by simp only[MF,List.length_append,List.length_cons,List.length_nil];omega) (by simp;omega)
  rw[List.append_assoc p [0],List.singleton_append]at this
  exact this
theorem ZF (h:List V) (p:Fl×List UInt8):∃g,V.reify h (part p)=part (g,p.2):=Xe h p.1 p.2
theorem Ku (h:List V):∀L:List (Fl×List UInt8),∃L',AB h (parts L)=parts L'∧flat L'=flat L∧L'.length=L.length
 |[]=>⟨[],rfl,rfl,rfl⟩
 |p::L=>by
  obtain⟨L',e1,e2,e3⟩:=Ku h L
  obtain⟨g,hg⟩:=ZF h p
  refine⟨(g,p.2)::L',?_,?_,by simp[e3]⟩
  ·simp only[parts,List.map_cons,AB,hg];exact congrArg _ e1
  ·rw[Jz,Jz,e2]
theorem NQ (h:List V) (f:Fl) (L:List (Fl×List UInt8)):∃f' L',V.reify h (.lst 172 f (parts L))= .lst 172 f' (parts L')∧flat L'=flat L∧L'.length=L.length:=by
 obtain⟨L',e1,e2,e3⟩:=Ku h L
 cases f
 case lent=>exact⟨.lent,L',by simp only[V.reify,e1],e2,e3⟩
 all_goals exact⟨.sh,L,rfl,rfl,rfl⟩
theorem Xf (L:List (Fl×List UInt8)) (hL:L.length<2147483648) (f:Fl) (hN:(flat L).length<2147480000) (h0:0<(flat L).length):
 Cl 176 [.lst 172 f (parts L)] []=some (BR (Xd (flat L)),[]):=by
 obtain⟨f',L',e1,e2,e3⟩:=NQ [BR (List.replicate 32 0)] f L
 have er:AB [BR (List.replicate 32 0)] [.lst 172 f (parts L),.lst 5 .nil []]=[.lst 172 f' (parts L'),.lst 5 .sh []]:=by
  simp only[AB,e1];rfl
 rw[AH4,AA1,AA2,AIk]
 simp only[List.nil_append]
 rw[er]
 refine(AA (AIi .sh L' (by omega) f' (by rw[e2];omega) (by rw[e2];exact h0)) _).trans ?_
 rw[e2,AA3]
 refine Jf _ |>.trans ?_
 refine(AA (Ce Em ..) _).trans ?_
 rw[wrap_u64 (by omega) (by omega)]
 refine(AA (TM _ _ _) _).trans ?_
 rw[wrap_u64 (by omega) (by omega),show((flat L).length:Int)*8=((8*(flat L).length:Nat):Int)by omega,AA4]
 refine(app1 (Or.inl rfl) (by omega) 128 (by omega) _).trans ?_
 have z:MF ((flat L).length+1)<64:=Nat.mod_lt _ (by decide)
 exact APE (flat L).length (by omega) (MF ((flat L).length+1)) (flat L++[128]) (by simp) (by simp;omega)
end
section
open Go AM
theorem VG {a b i:Nat} (h:b<2^i):a*2^i|||b=a*2^i+b:=by
 have:=Nat.shiftLeft_add_eq_or_of_lt h a
 rw[Nat.shiftLeft_eq]at this;exact this.symm
theorem AIl {x n:Nat} (hx:x<4294967296) (h1:1≤n) (h2:n≤31):EG x n=x/2^n+x%2^n*2^(32-n):=by
 have e:(4294967296:Nat)=2^n*2^(32-n):=by rw[←Nat.pow_add,show n+(32-n)=32 by omega]
 have hd:x/2^n<2^(32-n):=by
  rw[Nat.div_lt_iff_lt_mul (Nat.pow_pos (by decide)),Nat.mul_comm,←e];exact hx
 unfold EG
 rw[show x*2^(32-n)%4294967296=x%2^n*2^(32-n)by rw[e,Nat.mul_mod_mul_right],VG hd,Nat.add_comm]
theorem AIm {a b c d:Nat} (ha:a<256) (hb:b<256) (hc:c<256) (hd:d<256):
 ((a*2^24%4294967296|||b*2^16%4294967296)|||c*2^8%4294967296)|||d=a*16777216+b*65536+c*256+d:=by
 have e1:a*2^24%4294967296=a*2^24:=Nat.mod_eq_of_lt (by omega)
 have e2:b*2^16%4294967296=b*2^16:=Nat.mod_eq_of_lt (by omega)
 have e3:c*2^8%4294967296=c*2^8:=Nat.mod_eq_of_lt (by omega)
 rw[e1,e2,e3,VG (by omega),show a*2^24+b*2^16=(a*256+b)*2^16 by omega,VG (by omega),show(a*256+b)*2^16+c*2^8=(a*65536+b*256+c)*2^8 by omega,VG (by omega)]
theorem APF {e f g:Nat} (he:e<4294967296) (hf:f<4294967296) (hg:g<4294967296):(e&&& f) ^^^ ((4294967295-e)&&& g)=g ^^^ (e&&& (f ^^^ g)):=by
 have hb:∀i,(4294967295-e).testBit i=(decide (i<32)&& !e.testBit i):=fun i=>by
  rw[←Nat.testBit_two_pow_sub_succ (n:=32) he i,show 4294967295-e=2^32-(e+1)by omega]
 apply Nat.eq_of_testBit_eq
 intro i
 simp only[Nat.testBit_xor,Nat.testBit_and,hb]
 by_cases hi:i<32
 ·simp only[hi,decide_true,Bool.true_and]
  cases e.testBit i<;>cases f.testBit i<;>cases g.testBit i<;>rfl
 ·have:g.testBit i=false:=Nat.testBit_lt_two_pow (Nat.lt_of_lt_of_le hg (Nat.pow_le_pow_right (n:=2) (i:=32) (by decide) (by omega)))
  have:f.testBit i=false:=Nat.testBit_lt_two_pow (Nat.lt_of_lt_of_le hf (Nat.pow_le_pow_right (n:=2) (i:=32) (by decide) (by omega)))
  simp[*]
theorem APG (a b c:Nat):((a&&& b) ^^^ (a&&& c)) ^^^ (b&&& c)=(a&&& b)|||(c&&& (a|||b)):=by
 apply Nat.eq_of_testBit_eq
 intro i
 simp only[Nat.testBit_xor,Nat.testBit_and,Nat.testBit_or]
 cases a.testBit i<;>cases b.testBit i<;>cases c.testBit i<;>rfl
theorem ad4 (a b c d:Nat):ad (ad (ad a b) c) d=(a+b+c+d)%4294967296:=by simp only[ad];omega
theorem ad5 (a b c d e:Nat):ad (ad (ad (ad a b) c) d) e=(a+b+c+d+e)%4294967296:=by simp only[ad];omega
theorem ARp (a b:Nat):ad (a%4294967296) b=(a+b)%4294967296:=by simp only[ad];omega
theorem ARq (a b:Nat):ad b (a%4294967296)=(b+a)%4294967296:=by simp only[ad];omega
def fv (w:List Nat) (t:Nat):Nat:=ad (ad (ad (w.getD (t-16) 0) (w.getD (t-7) 0)) (sg0 (w.getD (t-15) 0))) (sg1 (w.getD (t-2) 0))
def Xg (p:List UInt8):Nat→Nat→List Nat→List Nat
 |0,_,w=>w
 |n+1,t,w=>Xg p n (t+1) (w++[wordAt p t])
def Td:Nat→Nat→List Nat→List Nat
 |0,_,w=>w
 |n+1,t,w=>Td n (t+1) (w++[fv w t])
theorem Jg {l:List Nat} {t x:Nat} (ht:t<l.length):(l.set t x).take (t+1)=l.take t++[x]:=by
 rw[List.take_add_one]
 simp[ht,List.take_set_of_le]
theorem Xh (p:List UInt8):∀(n t:Nat) (w:List Nat),t+n≤w.length→Xg p n t (w.take t)=(Jd p n t w).take (t+n)
 |0,_,_,_=>rfl
 |n+1,t,w,h=>by
  rw[Xg,Jd,←Jg (by omega),Xh p n (t+1) (w.set t (wordAt p t)) (by simp;omega),show t+1+n=t+(n+1)by omega]
theorem getD_take {w:List Nat} {i t:Nat} (h:i<t):(w.take t).getD i 0=w.getD i 0:=by
 simp[List.getD_eq_getElem?_getD,List.getElem?_take,h]
theorem Xi:∀(n t:Nat) (w:List Nat),16≤t→t+n≤w.length→Td n t (w.take t)=(Je n t w).take (t+n)
 |0,_,_,_,_=>rfl
 |n+1,t,w,h16,h=>by
  have e:fv (w.take t) t=fv w t:=by simp only[fv];rw[getD_take (by omega),getD_take (by omega),getD_take (by omega),getD_take (by omega)]
  rw[Td,ABm,e,←Jg (by omega)]
  exact(Xi n (t+1) (w.set t (fv w t)) (by omega) (by simp;omega)).trans (by rw[show t+1+n=t+(n+1)by omega];rfl)
theorem AMF (p:List UInt8):Td 48 16 (Xg p 16 0 [])=Je 48 16 (Jd p 16 0 (List.replicate 64 0)):=by
 have z32:B32 (List.replicate 64 0):=fun x hx=>by rw[List.eq_of_mem_replicate hx];decide
 have a:=XY p 16 0 (List.replicate 64 0) z32 (by simp)
 have b:=XZ 48 16 _ a.1 a.2
 have h1:=Xh p 16 0 (List.replicate 64 0) (by simp)
 rw[List.take_zero]at h1
 rw[h1,Xi 48 16 _ (by omega) (by omega),List.take_of_length_le (by omega)]
end
section
open Go AM
def uw (n:Nat):V:= .int .u64 (n:Int)
def Qn (l:List Nat):List V:=l.map uw
def uL (f:Fl) (l:List Nat):V:= .lst 132 f (Qn l)
theorem Fg {B:Type} {a b:Nat} (h:a+b<18446744073709551616) (K:V→Option B):(AL .add (.int .u64 (a:Int)) (.int .u64 (b:Int))).bind K=K (.int .u64 ((a+b:Nat):Int)):=by
 rw[DT,show(a:Int)+(b:Int)=((a+b:Nat):Int)by omega,wrap_u64 (by omega) (by omega)];rfl
theorem APH {B:Type} {a b:Nat} (h:b≤a) (ha:a<18446744073709551616) (K:V→Option B):(AL .sub (.int .u64 (a:Int)) (.int .u64 (b:Int))).bind K=K (.int .u64 ((a-b:Nat):Int)):=by
 rw[KW,show(a:Int)-(b:Int)=((a-b:Nat):Int)by omega,wrap_u64 (by omega) (by omega)];rfl
theorem Xj {B:Type} {a b:Nat} (h:a*b<18446744073709551616) (K:V→Option B):(AL .mul (.int .u64 (a:Int)) (.int .u64 (b:Int))).bind K=K (.int .u64 ((a*b:Nat):Int)):=by
 rw[TM,←Int.natCast_mul,wrap_u64 (by omega) (by omega)];rfl
theorem Qo {B:Type} {a b:Nat} (hb:0<b) (h:a<18446744073709551616) (K:V→Option B):(AL .quo (.int .u64 (a:Int)) (.int .u64 (b:Int))).bind K=K (.int .u64 ((a/b:Nat):Int)):=by
 have:a/b≤a:=Nat.div_le_self _ _
 rw[XT _ _ _ (by omega),show(a:Int).tdiv b=((a/b:Nat):Int)by rfl]
 generalize a/b=c at*
 rw[wrap_u64 (by omega) (by omega)];rfl
theorem Tf {B:Type} {a b:Nat} (hb:0<b) (K:V→Option B):(AL .rem (.int .u64 (a:Int)) (.int .u64 (b:Int))).bind K=K (.int .u64 ((a%b:Nat):Int)):=by
 rw[KX _ _ _ (by omega),show(a:Int).tmod b=((a%b:Nat):Int)by rfl];rfl
theorem ARr {B:Type} {k:IntKind} {a b:Int} (h:a=b) (K:V→Option B):(AL .eql (.int k a) (.int k b)).bind K=K (.bool true):=by
 rw[b_eql,Option.bind_some,decide_eq_true h]
theorem ARs {B:Type} {k:IntKind} {a b:Int} (h:¬a=b) (K:V→Option B):(AL .eql (.int k a) (.int k b)).bind K=K (.bool false):=by
 rw[b_eql,Option.bind_some,decide_eq_false h]
theorem APJ {B:Type} {k:IntKind} {a b:Int} (h:a≠b) (K:V→Option B):(AL .neq (.int k a) (.int k b)).bind K=K (.bool true):=by
 rw[b_neq,Option.bind_some,decide_eq_true h]
theorem APK {B:Type} {k:IntKind} {a b:Int} (h:¬a≠b) (K:V→Option B):(AL .neq (.int k a) (.int k b)).bind K=K (.bool false):=by
 rw[b_neq,Option.bind_some,decide_eq_false h]
theorem AMG {B:Type} {k:IntKind} {a b:Int} (h:b≤a) (K:V→Option B):(AL .geq (.int k a) (.int k b)).bind K=K (.bool true):=by
 rw[b_geq,Option.bind_some,decide_eq_true h]
theorem AMH {B:Type} {k:IntKind} {a b:Int} (h:¬b≤a) (K:V→Option B):(AL .geq (.int k a) (.int k b)).bind K=K (.bool false):=by
 rw[b_geq,Option.bind_some,decide_eq_false h]
theorem VH {l:List Nat} {i:Nat} (hi:i<l.length):(Qn l)[i]?=some (uw (l.getD i 0)):=by
 simp[Qn,List.getElem?_map,List.getElem?_eq_getElem hi]
theorem OX (l:List Nat):(Qn l).length=l.length:=by simp[Qn]
theorem AIn (a b:List Nat):Qn (a++b)=Qn a++Qn b:=by simp[Qn]
theorem Ti:∀l:List Nat,AU (Qn l)=true
 |[]=>rfl
 |x::l=>by simp only[Qn,List.map_cons,AU];rw[show List.map uw l=Qn l from rfl,Ti l];rfl
theorem Tj (l:List Nat):GL P 132 (Qn l)=true:=by
 simp[GL,Qn,Bj,AEj,Bq,Em,uw]
theorem APL (x:Nat):Bj P 132 (uw x)=true:=by simp[Bj,AEj,Bq,Em,uw]
theorem SI {B:Type} {h:List V} {f:Fl} {l:List Nat} {i:Nat} (hi:i<l.length) (K:V→Option B):
 (AX P 231 (V.weak (uL f l)) (.int .i64 (i:Int))).bind (fun a=>(AV h 132 a).bind K)=K (.int .u64 (l.getD i 0:Int)):=by
 refine(ACv NI (VH hi) _).trans ?_
 exact ldR _
theorem AFB (v:V) (f:Fl) (l:List Nat) (hv:v=uL f l):V.weak (V.weak v)=V.weak v:=by subst hv;cases f<;>rfl
theorem AKj {B:Type} {f:Fl} {h:List V} {l:List Nat} (hf:f= .own∨f= .nil) (hl:l.length+1≤2147483648) (x:Nat) (K':V→Option B):
 (CS P 231 1 [(0,.int .u64 (x:Int))]).bind (fun y=>(Du P 231 h (uL f l) y).bind K')=K' (uL .own (l++[x])):=by
 refine(AA (AE5 NI (APL x) rfl Lu ⟨_,rfl⟩) _).trans ?_
 refine(AA (ACw NI hf (y:=V.lst 132 .own [.int .u64 x]) rfl rfl (Tj [x]) (by rw[OX];exact hl) Lu) _).trans ?_
 rw[uL,AIn];rfl
theorem AMI (m:Nat) (hm:m≤63):∀(n i x:Nat),i+n=m→x=2^i→
 OB (.int .i64 (m:Int)) (.int .u64 (x:Int)) (.int .i64 (i:Int))=some (.int .u64 ((2^m:Nat):Int),[]):=by
 intro n
 induction n with
 |zero=>
  intro i x hi hx
  rw[QD,U5,Gm (by omega),BL,ABG,Ko]
  subst hx;rw[show i=m by omega];rfl
 |succ n ih=>
  intro i x hi hx
  rw[QD,U5,GK (by omega),BK,ABE]
  have hp:2*x=2^(i+1):=by rw[hx,Nat.pow_succ,Nat.mul_comm]
  have:2^(i+1)≤2^63:=Nat.pow_le_pow_right (by decide) (by omega)
  refine(Xj (a:=2) (by rw[hp];omega) _).trans ?_
  rw[ABF]
  refine(Fb (b:=1) (by omega) _).trans ?_
  exact ih (i+1) (2*x) (by omega) hp
theorem AMJ {m:Nat} (hm:m≤63):Cl 179 [.int .i64 (m:Int)] []=some (.int .u64 ((2^m:Nat):Int),[]):=by
 rw[AH7,ABB,ABC,ABD]
 exact AMI m hm m 0 1 (by omega) rfl
theorem ABp {B:Type} {h:List V} {m:Nat} (hm:m≤63) (K:V×List V→Option B):(Cl 179 (AB h [.int .i64 (m:Int)]) []).bind K=K (.int .u64 ((2^m:Nat):Int),[]):=
 AA (AMJ hm) K
theorem AIo {B:Type} {h:List V} {m:Nat} (K:V×List V→Option B):(Cl 181 (AB h [.int .u64 (m:Int)]) []).bind K=K (.int .u64 ((m%4294967296:Nat):Int),[]):=by
 refine AA ?_ K
 show Cl 181 [.int .u64 (m:Int)] []=_
 rw[AIA,ABJ,ABK]
 exact Tf (b:=4294967296) (by decide) _
theorem AFC {x n:Nat} (hx:x<4294967296) (h1:1≤n) (h2:n≤31):Cl 182 [.int .u64 (x:Int),.int .i64 (n:Int)] []=some (.int .u64 (EG x n:Int),[]):=by
 rw[AIB,ABL,ABM]
 have p0:0<2^n:=Nat.pow_pos (by decide)
 have e:(4294967296:Nat)=2^n*2^(32-n):=by rw[←Nat.pow_add,show n+(32-n)=32 by omega]
 have hr:=Ah (n:=n) hx
 rw[AIl hx h1 h2]at hr⊢
 refine(ABp (by omega) _).trans<|(Qo p0 (by omega) _).trans<|(ABp (by omega) _).trans<|(Tf p0 _).trans ?_
 have hr':x/2^n+x%2^n*2^(32-n)<18446744073709551616:=Nat.lt_trans hr (by decide)
 refine(IV (a:=32) (by omega) (by omega) _).trans<|(ABp (by omega) _).trans<|(Xj (Nat.lt_of_le_of_lt (Nat.le_add_left _ _) hr') _).trans<|(Fg hr' _).trans ?_
 rfl
theorem Gn {B:Type} {h:List V} {x:Nat} (hx:x<4294967296) (n:Nat) (h1:1≤n) (h2:n≤31) (K:V×List V→Option B):
 (Cl 182 (AB h [.int .u64 (x:Int),.int .i64 (n:Int)]) []).bind K=K (.int .u64 (EG x n:Int),[]):=AA (AFC hx h1 h2) K
theorem ACy:Cl 180 [] []=some (uL .sh BV,[]):=by
 rw[AH9,ABH]
 kernel_rfl
end
section
open Go AM
theorem ZG {a:Nat} (h:a<4294967296):a<18446744073709551616:=Nat.lt_trans h (by decide)
theorem IX {B:Type} {a b:Nat} (ha:a<4294967296) (hb:b<4294967296) (K:V→Option B):(AL .xor (.int .u64 (a:Int)) (.int .u64 (b:Int))).bind K=K (.int .u64 ((a ^^^ b:Nat):Int)):=
 AA (u64_xor (ZG ha) (ZG hb)) K
theorem Xk {B:Type} {a b:Nat} (ha:a<4294967296) (hb:b<4294967296) (K:V→Option B):(AL .and (.int .u64 (a:Int)) (.int .u64 (b:Int))).bind K=K (.int .u64 ((a&&& b:Nat):Int)):=
 AA (u64_and (ZG ha) (ZG hb)) K
def box (st:List Nat):List V:=[.row 132 (Qn st)]
def Gp:V:= .win 0 [] 0 8 132
theorem AKk {i:Nat} (hi:i<8):AX P 231 (V.weak Gp) (.int .i64 (i:Int))=some (.ref 0 [i] 132):=by
 have:inside (i:Int) 8=true:=by simp[inside];omega
 simp[AX,Gp,V.weak,NI,this]
theorem Xl {B:Type} {st:List Nat} (hs:st.length=8) {i:Nat} (hi:i<8) (K:V→Option B):
 (AX P 231 (V.weak Gp) (.int .i64 (i:Int))).bind (fun a=>(AV (box st) 132 a).bind K)=K (.int .u64 (st.getD i 0:Int)):=by
 refine(AA (AKk hi) _).trans ?_
 exact AA (Cf (ALw (u:=132) (fs:=Qn st) rfl (VH (by omega)))) _
theorem APM {st:List Nat} (hs:st.length=8) {i x:Nat} (hi:i<8):Gu P (box st) 132 (.ref 0 [i] 132) (.int .u64 (x:Int))=some (box (st.set i x)):=by
 have:=AIN (P:=P) (h:=box st) (t:=132) (u:=132) (id:=0) (i:=i) (fs:=Qn st) (v:=uw x) (x:=uw (st.getD i 0)) rfl (VH (by omega)) (APL x) rfl
 refine this.trans ?_
 simp[box,Qn,List.map_set]
theorem sl4 {p:List UInt8} {a j:Nat} (hp:a+4≤p.length) (hj:j<4):(bytesOf ((p.take (a+4)).drop a))[j]?=some (.int .u8 ((p.getD (a+j) 0).toNat:Int)):=by
 rw[←bytesOf_drop,←bytesOf_take,List.getElem?_drop,List.getElem?_take_of_lt (by omega),MB (by omega)]
theorem atB {B:Type} {h:List V} {f:Fl} {l:List UInt8} {i x:Nat} (hi:(bytesOf l)[i]?=some (.int .u8 (x:Int))) (K:V→Option B):
 (AX P 172 (V.weak (bL f l)) (.int .i64 (i:Int))).bind (fun a=>(AV h 5 a).bind K)=K (.int .u8 (x:Int)):=by
 refine(ACv EC hi _).trans ?_
 exact ldR _
theorem cvU {B:Type} {h:List V} {x:Nat} (hx:x<256) (K:V→Option B):(conv P h 5 132 (.int .u8 (x:Int))).bind K=K (.int .u64 (x:Int)):=by
 refine(AA (Ce Em ..) _).trans ?_
 rw[wrap_u64 (by omega) (by omega)]
theorem AIp {h:List V} {f g:Fl} {p:List UInt8} {w:List Nat} {a:Nat} (hp:a+4≤p.length) (hw:w.length<100) (hf:f= .own∨f= .nil) (K:V→Option (V×List V)):
 PU (uL f w) (bL g ((p.take (a+4)).drop a)) h K=
  K (uL .own (w++[(p.getD a 0).toNat*16777216+(p.getD (a+1) 0).toNat*65536+(p.getD (a+2) 0).toNat*256+(p.getD (a+3) 0).toNat])):=by
 have b:∀j,(p.getD j 0).toNat<256:=fun j=>UInt8.toNat_lt _
 have b0:=b (a+0);have b1:=b (a+1);have b2:=b (a+2);have b3:=b (a+3)
 unfold PU
 refine(atB (i:=0) (sl4 hp (by omega)) _).trans<|(cvU (b _) _).trans<|(Xj (b:=16777216) (by omega) _).trans ?_
 refine(atB (i:=1) (sl4 hp (by omega)) _).trans<|(cvU (b _) _).trans<|(Xj (b:=65536) (by omega) _).trans<|(Fg (by omega) _).trans ?_
 refine(atB (i:=2) (sl4 hp (by omega)) _).trans<|(cvU (b _) _).trans<|(Xj (b:=256) (by omega) _).trans<|(Fg (by omega) _).trans ?_
 refine(atB (i:=3) (sl4 hp (by omega)) _).trans<|(cvU (b _) _).trans<|(Fg (by omega) _).trans ?_
 exact AKj hf (by omega) _ _
theorem AIq {h:List V} {f:Fl} {w:List Nat} {t:Nat} (h16:16≤t) (ht:t<64) (hw:w.length=t) (K:V→V→Option (V×List V)):
 PV (uL f w) (.int .i64 (t:Int)) h K=K (uw (w.getD (t-15) 0)) (uw (w.getD (t-2) 0)):=by
 unfold PV
 refine(IV (b:=15) (by omega) (by omega) _).trans<|(SI (by omega) _).trans ?_
 exact(IV (b:=2) (by omega) (by omega) _).trans<|(SI (by omega) _)
theorem AMK {x:Nat} (hx:x<4294967296):sg0 x<4294967296:=Df (Df (Ah hx) (Ah hx)) (JG _ hx)
theorem AML {x:Nat} (hx:x<4294967296):sg1 x<4294967296:=Df (Df (Ah hx) (Ah hx)) (JG _ hx)
theorem AIr {h:List V} {f:Fl} {w:List Nat} {t:Nat} (h16:16≤t) (ht:t<64) (hw:w.length=t) (bw:B32 w) (hf:f= .own∨f= .nil) (K:V→Option (V×List V)):
 PW (uL f w) (.int .i64 (t:Int)) (uw (w.getD (t-15) 0)) (uw (w.getD (t-2) 0)) h K=K (uL .own (w++[fv w t])):=by
 have a1:=bw.get (t-16);have a2:=bw.get (t-7);have a3:=bw.get (t-15);have a4:=bw.get (t-2)
 have s0:=AMK a3;have s1:=AML a4
 unfold PW
 rw[AFB _ f w rfl]
 refine(IV (b:=16) (by omega) (by omega) _).trans<|(SI (by omega) _).trans ?_
 refine(IV (b:=7) (by omega) (by omega) _).trans<|(SI (by omega) _).trans ?_
 refine(Fg (by omega) _).trans ?_
 refine(Gn a3 7 (by omega) (by omega) _).trans<|(Gn a3 18 (by omega) (by omega) _).trans<|(IX (Ah a3) (Ah a3) _).trans ?_
 refine(Qo (b:=8) (by omega) (ZG a3) _).trans ?_
 refine(IX (Df (Ah a3) (Ah a3)) (JG 8 a3) _).trans ?_
 refine(Fg (show _+sg0 (w.getD (t-15) 0)<_ by omega) _).trans ?_
 refine(Gn a4 17 (by omega) (by omega) _).trans<|(Gn a4 19 (by omega) (by omega) _).trans<|(IX (Ah a4) (Ah a4) _).trans ?_
 refine(Qo (b:=1024) (by omega) (ZG a4) _).trans ?_
 refine(IX (Df (Ah a4) (Ah a4)) (JG 1024 a4) _).trans ?_
 refine(Fg (show _+sg0 (w.getD (t-15) 0)+sg1 (w.getD (t-2) 0)<_ by omega) _).trans ?_
 refine(AIo _).trans ?_
 rw[fv,ad4]
 exact AKj hf (by omega) _ _
theorem AIs {h:List V} {f:Fl} {v:List Nat} (hv:v.length=8) (K:V→V→Option (V×List V)):
 PZ (uL f v) h K=K (uw (v.getD 0 0)) (uw (v.getD 4 0)):=by
 unfold PZ
 exact(SI (i:=0) (by omega) _).trans<|(SI (i:=4) (by omega) _)
theorem AIt {h:List V} {f:Fl} {v:List Nat} (hv:v.length=8) (bv:B32 v) (K:V→Option (V×List V)):
 Pe (uL f v) (uw (v.getD 4 0)) h K=K (uw (v.getD 6 0 ^^^ (v.getD 4 0&&& (v.getD 5 0 ^^^ v.getD 6 0)))):=by
 have be:=bv.get 4;have bf:=bv.get 5;have bg:=bv.get 6
 unfold Pe
 refine(SI (i:=5) (by omega) _).trans<|(Xk be bf _).trans<|(APH (a:=4294967295) (by omega) (by omega) _).trans ?_
 refine(SI (i:=6) (by omega) _).trans<|(Xk (by omega) bg _).trans<|(IX (D6 be) (D6 (by omega)) _).trans ?_
 rw[APF be bf bg];rfl
theorem AIu {h:List V} {f:Fl} {v:List Nat} (hv:v.length=8) (bv:B32 v) (K:V→Option (V×List V)):
 Pg (uL f v) (uw (v.getD 0 0)) h K=K (uw ((v.getD 0 0&&& v.getD 1 0)|||(v.getD 2 0&&& (v.getD 0 0|||v.getD 1 0)))):=by
 have ba:=bv.get 0;have bb:=bv.get 1;have bc:=bv.get 2
 unfold Pg
 refine(SI (i:=1) (by omega) _).trans<|(Xk ba bb _).trans ?_
 refine(SI (i:=2) (by omega) _).trans<|(Xk ba bc _).trans<|(IX (D6 ba) (D6 ba) _).trans ?_
 refine(SI (i:=1) (by omega) _).trans<|(SI (i:=2) (by omega) _).trans<|(Xk bb bc _).trans<|(IX (Df (D6 ba) (D6 ba)) (D6 bb) _).trans ?_
 rw[APG];rfl
def s1E (e:Nat):Nat:=(EG e 6 ^^^ EG e 11) ^^^ EG e 25
def s0A (a:Nat):Nat:=(EG a 2 ^^^ EG a 13) ^^^ EG a 22
theorem AFD {e:Nat} (h:e<4294967296):s1E e<4294967296:=Df (Df (Ah h) (Ah h)) (Ah h)
theorem AFE {e:Nat} (h:e<4294967296):s0A e<4294967296:=Df (Df (Ah h) (Ah h)) (Ah h)
theorem AIw {h:List V} {f g k:Fl} {v w:List Nat} {c t:Nat} (hv:v.length=8) (bv:B32 v) (hw:w.length=64) (bw:B32 w) (ht:t<64) (hc:c<4294967296) (K:V→Option (V×List V)):
 Ph (uL k BV) (uL g w) (uL f v) (.int .i64 (t:Int)) (uw (v.getD 4 0)) (uw c) h K=K (uw (v.getD 7 0+s1E (v.getD 4 0)+c+BV.getD t 0+w.getD t 0)):=by
 have be:=bv.get 4;have b7:=bv.get 7;have bk:=AKh.get t;have bt:=bw.get t
 have s:=AFD be
 unfold Ph
 refine(SI (i:=7) (by omega) _).trans<|(Gn be 6 (by omega) (by omega) _).trans<|(Gn be 11 (by omega) (by omega) _).trans<|(IX (Ah be) (Ah be) _).trans ?_
 refine(Gn be 25 (by omega) (by omega) _).trans<|(IX (Df (Ah be) (Ah be)) (Ah be) _).trans ?_
 refine(Fg (show _+s1E (v.getD 4 0)<_ by omega) _).trans<|(Fg (show _+s1E (v.getD 4 0)+c<_ by omega) _).trans ?_
 refine(SI (by rw[AKg];exact ht) _).trans<|(Fg (show _+s1E (v.getD 4 0)+c+_<_ by omega) _).trans ?_
 exact(SI (by omega) _).trans<|(Fg (show _+s1E (v.getD 4 0)+c+_+_<_ by omega) _)
theorem AIx {h:List V} {a c:Nat} (ba:a<4294967296) (hc:c<4294967296) (K:V→Option (V×List V)):
 Pj (uw a) (uw c) h K=K (uw (s0A a+c)):=by
 have s:=AFE ba
 unfold Pj
 refine(Gn ba 2 (by omega) (by omega) _).trans<|(Gn ba 13 (by omega) (by omega) _).trans<|(IX (Ah ba) (Ah ba) _).trans ?_
 refine(Gn ba 22 (by omega) (by omega) _).trans<|(IX (Df (Ah ba) (Ah ba)) (Ah ba) _).trans ?_
 exact(Fg (show s0A a+c<_ by omega) _)
theorem AKl (z0 z1 z2 z3 z4 z5 z6 z7:Nat):CS P 231 8 [(0,.int .u64 (z0:Int)),(1,.int .u64 (z1:Int)),(2,.int .u64 (z2:Int)),(3,.int .u64 (z3:Int)),(4,.int .u64 (z4:Int)),(5,.int .u64 (z5:Int)),(6,.int .u64 (z6:Int)),(7,.int .u64 (z7:Int))]=some (uL .own [z0,z1,z2,z3,z4,z5,z6,z7]):=by
 simp[CS,NI,Bv,Bj,AEj,Bq,Em,cp,Lu,uL,Qn,uw,List.replicate,AU,V.clean,Dc]
theorem AIy {h:List V} {f:Fl} {v:List Nat} {a e x y:Nat} (hv:v.length=8) (bv:B32 v) (hx:x<4294967296*8) (hy:y<4294967296*8) (K:V→Option (V×List V)):
 Pm (uL f v) (uw a) (uw e) (uw x) (uw y) h K=
  K (uL .own [(x+y)%4294967296,a,v.getD 1 0,v.getD 2 0,(v.getD 3 0+x)%4294967296,e,v.getD 5 0,v.getD 6 0]):=by
 have b3:=bv.get 3
 unfold Pm
 refine(Fg (by omega) _).trans<|(AIo _).trans<|(SI (i:=1) (by omega) _).trans<|(SI (i:=2) (by omega) _).trans<|(SI (i:=3) (by omega) _).trans ?_
 refine(Fg (by omega) _).trans<|(AIo _).trans<|(SI (i:=5) (by omega) _).trans<|(SI (i:=6) (by omega) _).trans ?_
 exact AA (AKl _ _ _ _ _ _ _ _) _
theorem AMM (e f g h k w:Nat):chE e f g h k w=(h+s1E e+(g ^^^ (e&&& (f ^^^ g)))+k+w)%4294967296:=ad5 ..
theorem AMN (a b c:Nat):mjA a b c=(s0A a+((a&&& b)|||(c&&& (a|||b))))%4294967296:=rfl
theorem AIz {k w v:List Nat} {t:Nat}:
 [(v.getD 7 0+s1E (v.getD 4 0)+(v.getD 6 0 ^^^ (v.getD 4 0&&& (v.getD 5 0 ^^^ v.getD 6 0)))+k.getD t 0+w.getD t 0+(s0A (v.getD 0 0)+((v.getD 0 0&&& v.getD 1 0)|||(v.getD 2 0&&& (v.getD 0 0|||v.getD 1 0)))))%4294967296,
   v.getD 0 0,v.getD 1 0,v.getD 2 0,
   (v.getD 3 0+(v.getD 7 0+s1E (v.getD 4 0)+(v.getD 6 0 ^^^ (v.getD 4 0&&& (v.getD 5 0 ^^^ v.getD 6 0)))+k.getD t 0+w.getD t 0))%4294967296,
   v.getD 4 0,v.getD 5 0,v.getD 6 0]=rnd k w t v:=by
 rw[AE0,AMM,AMN,ARp,ARq,Nat.add_mod_mod]
end
section
open Go AM
theorem ACz (p:List UInt8) (o t:Nat) (ho:o+4*t+4≤p.length) (ht:t<16):
 (p.getD (o+4*t) 0).toNat*16777216+(p.getD (o+4*t+1) 0).toNat*65536+(p.getD (o+4*t+2) 0).toNat*256+(p.getD (o+4*t+3) 0).toNat=wordAt ((p.drop o).take 64) t:=by
 have e:∀j,j<64→((p.drop o).take 64).getD j 0=p.getD (o+j) 0:=by
  intro j hj
  simp[List.getD_eq_getElem?_getD,List.getElem?_take,List.getElem?_drop,hj]
 have b:∀j,(p.getD j 0).toNat<256:=fun j=>UInt8.toNat_lt _
 rw[wordAt,e _ (by omega),e _ (by omega),e _ (by omega),e _ (by omega),AIm (b _) (b _) (b _) (b _)]
 simp only[Nat.add_assoc]
theorem AI0 (p:List UInt8) (t6:V) (o:Nat) (m4:Nat) (v:List Nat) (f:Fl) (hv:v.length=8) (bv:B32 v) (N:V×List V→Prop) (R:Option (V×List V))
 (k:∀st:List Nat,st.length=8→B32 st→Eh (bL .own p) t6 Gp (.int .i64 ((o+64:Nat):Int)) (box st)=Eh (bL .own p) t6 Gp (.int .i64 ((o+64:Nat):Int)) (box st)) (ho:o<2^40):
 ∀(n i:Nat) (st:List Nat),i+n=8→st.length=8→B32 st→
 KR (bL .own p) t6 Gp (.int .i64 (o:Int)) (uL f v) (.int .i64 (i:Int)) m4 (box st)=
  Eh (bL .own p) t6 Gp (.int .i64 ((o+64:Nat):Int)) (box (MC v n i st)):=by
 intro n
 induction n with
 |zero=>
  intro i st hi hs bs
  rw[NG,Pn,Gm (by omega),BL,WT]
  refine(Fb (b:=64) (by omega) _).trans ?_
  rfl
 |succ n ih=>
  intro i st hi hs bs
  rw[NG,Pn,GK (by omega),BK,WR]
  have b1:=bs.get i;have b2:=bv.get i
  refine(Xl hs (by omega) _).trans<|(SI (by omega) _).trans<|(Fg (by omega) _).trans<|(AIo _).trans ?_
  refine(AA (AKk (by omega)) _).trans<|(AA (APM hs (by omega)) _).trans ?_
  rw[WS]
  refine(Fb (b:=1) (by omega) _).trans ?_
  exact ih (i+1) _ (by omega) (by simp[hs]) (bs.set i (TS _ _))
theorem AMO (p:List UInt8) (o m4:Nat) (ho:o<2^40) (w st:List Nat) (g kf:Fl) (hw:w.length=64) (bw:B32 w) (hs:st.length=8) (bs:B32 st):
 ∀(n t:Nat) (v:List Nat) (f:Fl),t+n=64→v.length=8→B32 v→
 Ny (bL .own p) (uL kf BV) Gp (.int .i64 (o:Int)) (uL g w) (uL f v) (.int .i64 (t:Int)) m4 (box st)=
  Eh (bL .own p) (uL kf BV) Gp (.int .i64 ((o+64:Nat):Int)) (box (MC (Ql BV w n t v) 8 0 st)):=by
 intro n
 induction n with
 |zero=>
  intro t v f ht hv bv
  rw[Po,PY,Gm (by omega),BL,WQ]
  exact AI0 p _ o m4 v f hv bv (fun _=>True) none (fun _ _ _=>rfl) ho 8 0 st rfl hs bs
 |succ n ih=>
  intro t v f ht hv bv
  have c1:(v.getD 6 0 ^^^ (v.getD 4 0&&& (v.getD 5 0 ^^^ v.getD 6 0)))<4294967296:=Df (bv.get 6) (D6 (bv.get 4))
  have c2:((v.getD 0 0&&& v.getD 1 0)|||(v.getD 2 0&&& (v.getD 0 0|||v.getD 1 0)))<4294967296:=AEv (D6 (bv.get 0)) (D6 (bv.get 2))
  have s1:=AFD (bv.get 4);have s0:=AFE (bv.get 0);have b7:=bv.get 7;have bk:=AKh.get t;have bt:=bw.get t
  rw[Po,PY,GK (by omega),BK,AIs hv,AIt hv bv,AIu hv bv,AIw hv bv hw bw (by omega) c1,AIx (bv.get 0) c2,
   AIy hv bv (by omega) (by omega),AIz,WO,AE1]
  refine(Fb (b:=1) (by omega) _).trans ?_
  exact ih (t+1) _ .own (by omega) rfl (ZB bv t).1
theorem APO (w:List Nat) (t:Nat):fv w t<4294967296:=TS _ _
theorem AI1 (f:Fl) {st:List Nat} (hs:st.length=8) (K:V→Option (V×List V)):PX Gp (box st) K=K (uL .own st):=by
 unfold PX
 refine(AA (show CS P 231 0 []=some (uL .own [])by simp[CS,NI,Bv,uL,Qn,AU,Dc,Lu]) _).trans ?_
 have c:Ac (box st) (V.weak Gp)=some (Qn st):=by
  simp[Ac,Gp,V.weak,box,rd,V.at,V.items]
  rw[List.take_of_length_le (by rw[OX];omega)]
 exact AA (ACw NI (Or.inl rfl) c (Ti _) (Tj _) (by rw[OX];simp[Qn];omega) Lu) _
theorem AI2 (p:List UInt8) (o m4:Nat) (ho:o<2^40) (st:List Nat) (kf:Fl) (hs:st.length=8) (bs:B32 st):
 ∀(n t:Nat) (w:List Nat),t+n=64→16≤t→w.length=t→B32 w→
 JC (bL .own p) (uL kf BV) Gp (.int .i64 (o:Int)) (uL .own w) (.int .i64 (t:Int)) m4 (box st)=
  Eh (bL .own p) (uL kf BV) Gp (.int .i64 ((o+64:Nat):Int)) (box (MC (Ql BV (Td n t w) 64 0 st) 8 0 st)):=by
 intro n
 induction n with
 |zero=>
  intro t w ht h16 hw bw
  rw[Jw,KP,Gm (by omega),BL,AI1 .own hs,WN]
  exact AMO p o m4 ho w st .own kf (by omega) bw hs bs 64 0 st .own rfl hs bs
 |succ n ih=>
  intro t w ht h16 hw bw
  rw[Jw,KP,GK (by omega),BK,PS,Gm (by omega),BL,
   AIq h16 (by omega) hw,AIr h16 (by omega) hw bw (Or.inl rfl),KQ]
  refine(Fb (b:=1) (by omega) _).trans ?_
  refine ih (t+1) (w++[fv w t]) (by omega) (by omega) (by simp[hw]) ?_
  intro x hx;rcases List.mem_append.1 hx with hx|hx
  ·exact bw x hx
  ·rw[List.mem_singleton.1 hx];exact APO _ _
theorem AMP (p:List UInt8) (o m4:Nat) (ho:o<2^40) (hp:o+64≤p.length) (st:List Nat) (kf:Fl) (hs:st.length=8) (bs:B32 st):
 ∀(n t:Nat) (w:List Nat),t+n=16→w.length=t→B32 w→
 JC (bL .own p) (uL kf BV) Gp (.int .i64 (o:Int)) (uL .own w) (.int .i64 (t:Int)) m4 (box st)=
  Eh (bL .own p) (uL kf BV) Gp (.int .i64 ((o+64:Nat):Int)) (box (MC (Ql BV (Td 48 16 (Xg ((p.drop o).take 64) n t w)) 64 0 st) 8 0 st)):=by
 intro n
 induction n with
 |zero=>
  intro t w ht hw bw
  rw[show t=16 by omega]at*
  exact AI2 p o m4 ho st kf hs bs 48 16 w rfl (by omega) hw bw
 |succ n ih=>
  intro t w ht hw bw
  rw[Jw,KP,GK (by omega),BK,PS,GK (by omega),BK,WM]
  refine(Xc (a:=4) (by omega) _).trans<|(Fb (by omega) _).trans<|(Xc (a:=4) (by omega) _).trans<|(Fb (by omega) _).trans<|(Fb (b:=4) (by omega) _).trans ?_
  refine(AA (AMC (f:= .own) (t:=5) (xs:=bytesOf p) EC (a:=o+4*t) (b:=o+4*t+4) (by omega) (by rw[Af];omega)) _).trans ?_
  rw[bytesOf_take,bytesOf_drop]
  refine(AIp (g:=Fl.cut .own) (by omega) (by omega) (Or.inl rfl) _).trans ?_
  rw[KQ]
  refine(Fb (b:=1) (by omega) _).trans ?_
  rw[ACz p o t (by omega) (by omega)]
  refine ih (t+1) _ (by omega) (by simp[hw]) ?_
  intro x hx;rcases List.mem_append.1 hx with hx|hx
  ·exact bw x hx
  ·rw[List.mem_singleton.1 hx];exact L9 _ _
end
section
open Go AM
def J3 (st:List Nat):Nat→Nat→List UInt8
 |0,_=>[]
 |n+1,i=>[dg st (4*i),dg st (4*i+1),dg st (4*i+2),dg st (4*i+3)]++J3 st n (i+1)
def AFF (st:List Nat):Nat→Nat→List UInt8
 |0,_=>[]
 |n+1,i=>dg st i::AFF st n (i+1)
theorem AFG {l:List UInt8} {t:Nat} {x:UInt8} (ht:t<l.length):(l.set t x).take (t+1)=l.take t++[x]:=by
 rw[List.take_add_one]
 simp[ht,List.take_set_of_le]
theorem Qp (st:List Nat):∀(n i:Nat) (w:List UInt8),i+n=w.length→Ff st n i w=w.take i++AFF st n i
 |0,i,w,h=>by rw[Ff,AFF,List.append_nil,List.take_of_length_le (by omega)]
 |n+1,i,w,h=>by
  rw[Ff,Qp st n (i+1) (w.set i (dg st i)) (by simp;omega),AFG (by omega),AFF,List.append_assoc,List.singleton_append]
theorem Qq (st:List Nat):∀n i,AFF st (4*n) (4*i)=J3 st n i
 |0,_=>rfl
 |n+1,i=>by
  have:=Qq st n (i+1)
  rw[J3,←this];rfl
theorem Xm (st:List Nat):Ff st 32 0 (List.replicate 32 0)=J3 st 8 0:=by
 rw[Qp st 32 0 _ (by simp),List.take_zero,List.nil_append];exact Qq st 8 0
theorem ABq (st:List Nat) (i j:Nat) (hj:j<4):dg st (4*i+j)=UInt8.ofNat (st.getD i 0/2^(24-8*j)%256):=by
 rw[dg,show(4*i+j)/4=i by omega,show(4*i+j)%4=j by omega]
theorem Qr (l:List UInt8):Ef (bytesOf l)=some l:=by
 induction l with
 |nil=>rfl
 |cons x l ih=>
  have:bytesOf (x::l)= .int .u8 (x.toNat:Int)::bytesOf l:=rfl
  rw[this]
  simp only[Ef,AM.byteOf,ih]
  simp
theorem APP (a b c d:Nat) (ha:a<256) (hb:b<256) (hc:c<256) (hd:d<256):CS P 172 4 [(0,.int .u8 (a:Int)),(1,.int .u8 (b:Int)),(2,.int .u8 (c:Int)),(3,.int .u8 (d:Int))]=some (bL .own [UInt8.ofNat a,UInt8.ofNat b,UInt8.ofNat c,UInt8.ofNat d]):=by
 simp[CS,EC,Bv,OV,cp,XR,List.replicate,AU,V.clean,Dc,bL,bytesOf,Nat.mod_eq_of_lt ha,Nat.mod_eq_of_lt hb,Nat.mod_eq_of_lt hc,Nat.mod_eq_of_lt hd]
theorem cv8 {B:Type} {h:List V} {x:Nat} (K:V→Option B):(conv P h 132 5 (.int .u64 (x:Int))).bind K=K (.int .u8 ((x%256:Nat):Int)):=by
 refine(AA (Ce Qa ..) _).trans ?_
 rw[IQ]
theorem AI3 {st:List Nat} (hs:st.length=8) (bs:B32 st) {l:List UInt8} {f:Fl} {i:Nat} (hi:i<8) (hl:l.length<1000) (K:V→Option (V×List V)):
 Pv Gp (bL .own l) (.int .i64 (i:Int)) (box st) K=K (bL .own (l++[dg st (4*i),dg st (4*i+1),dg st (4*i+2),dg st (4*i+3)])):=by
 have b:=ZG (bs.get i)
 have m:∀x,x%256<256:=fun x=>Nat.mod_lt _ (by decide)
 unfold Pv
 refine(Xl hs hi _).trans<|(Qo (b:=16777216) (by decide) b _).trans<|(cv8 _).trans ?_
 refine(Xl hs hi _).trans<|(Qo (b:=65536) (by decide) b _).trans<|(Tf (b:=256) (by decide) _).trans<|(cv8 _).trans ?_
 refine(Xl hs hi _).trans<|(Qo (b:=256) (by decide) b _).trans<|(Tf (b:=256) (by decide) _).trans<|(cv8 _).trans ?_
 refine(Xl hs hi _).trans<|(Tf (b:=256) (by decide) _).trans<|(cv8 _).trans ?_
 refine(AA (APP _ _ _ _ (m _) (m _) (m _) (m _)) _).trans ?_
 refine(AA (AMD (Or.inl rfl) (by simp;omega)) _).trans ?_
 rw[show dg st (4*i)=dg st (4*i+0)from rfl,ABq _ _ 0 (by omega),ABq _ _ 1 (by omega),ABq _ _ 2 (by omega),ABq _ _ 3 (by omega)]
 simp only[Nat.mod_mod]
 rw[show(2^(24-8*3):Nat)=1 from rfl,Nat.div_one]
theorem AI4 {st:List Nat} (hs:st.length=8) (bs:B32 st):∀(n i:Nat) (l:List UInt8),i+n=8→l.length=4*i→
 KT Gp (bL .own l) (.int .i64 (i:Int)) (box st)=some (.str (l++J3 st n i),[]):=by
 intro n
 induction n with
 |zero=>
  intro i l hi hl
  rw[NH,Pq,Gm (by omega),BL,WX]
  refine(AA (show conv P (box st) 172 9 (bL .own l)=some (.str l)by simp[conv,TL,JD,Qa,bL,Ac,Qr]) _).trans ?_
  rw[VD,J3,List.append_nil];rfl
 |succ n ih=>
  intro i l hi hl
  rw[NH,Pq,GK (by omega),BK,AI3 (f:= .own) hs bs (by omega) (by omega),WW,J3,←List.append_assoc]
  refine(Fb (b:=1) (by omega) _).trans ?_
  exact ih (i+1) _ (by omega) (by simp;omega)
theorem AMR (p:List UInt8) (kf:Fl) (hp:p.length<2^32):∀(n o:Nat) (st:List Nat),o+64*n=p.length→st.length=8→B32 st→
 Eh (bL .own p) (uL kf BV) Gp (.int .i64 (o:Int)) (box st)=some (.str (Ff (blocks n st (p.drop o)) 32 0 (List.replicate 32 0)),[]):=by
 intro n
 induction n with
 |zero=>
  intro o st ho hs bs
  rw[Px,PO]
  refine Jf _ |>.trans ?_
  refine(Gm (by omega) _).trans ?_
  rw[BL,WU]
  refine(AA (show CS P 172 0 []=some (bL .own [])by simp[CS,EC,Bv,bL,bytesOf,AU,Dc,XR]) _).trans ?_
  rw[WV,Xm]
  exact AI4 hs bs 8 0 [] rfl rfl
 |succ n ih=>
  intro o st ho hs bs
  rw[Px,PO]
  refine Jf _ |>.trans ?_
  refine(GK (by omega) _).trans ?_
  rw[BK,WJ]
  refine(AA (show CS P 231 0 []=some (uL .own [])by simp[CS,NI,Bv,uL,Qn,AU,Dc,Lu]) _).trans ?_
  rw[WL]
  refine(AMP p o _ (by omega) (by omega) st kf hs bs 16 0 [] rfl rfl (by intro x hx;cases hx)).trans ?_
  rw[AMF]
  have:=ih (o+64) (TT st ((p.drop o).take 64)) (by omega) (Kr _ bs hs).2 (Kr _ bs hs).1
  refine this.trans ?_
  rw[blocks,List.drop_drop]
theorem AC0:CS P 231 8 [(0,.int .u64 1779033703),(1,.int .u64 3144134277),(2,.int .u64 1013904242),(3,.int .u64 2773480762),(4,.int .u64 1359893119),(5,.int .u64 2600822924),(6,.int .u64 528734635),(7,.int .u64 1541459225)]=some (uL .own ER):=by
 refine(AKl 1779033703 3144134277 1013904242 2773480762 1359893119 2600822924 528734635 1541459225).trans ?_
 kernel_rfl
theorem AMS (N:Nat) (hN:N<2147483648):∀(n i:Nat) (p:List UInt8),i+n=8→(p.length+n)%64=0→p.length<2147483000→
 Nw (bL .own p) (.int .u64 ((8*N:Nat):Int)) (.int .i64 ((n:Int)-1)) []=
  some (.str (Ff (blocks ((p++Gx (8*N) n i).length/64) ER (p++Gx (8*N) n i)) 32 0 (List.replicate 32 0)),[]):=by
 intro n
 induction n with
 |zero=>
  intro i p hi hp hl
  rw[Py,U2]
  refine(AMH (by omega) _).trans ?_
  rw[BL,AAw]
  refine(AA ACy _).trans ?_
  rw[WH]
  refine(AA AC0 _).trans<|(AA (show DN [] (uL .own ER)=some (Gp,box ER)by simp[DN,uL,OX,AE9,Gp,box]) _).trans ?_
  rw[WI]
  simp only[Gx,List.append_nil]
  have:=AMR p .sh (by omega) (p.length/64) 0 ER (by omega) AE9 AKi
  rw[List.drop_zero]at this
  exact this
 |succ n ih=>
  intro i p hi hp hl
  rw[Py,U2]
  refine(AMG (by omega) _).trans ?_
  rw[BK,AAu,show((n+1:Nat):Int)-1=(n:Int)by omega]
  refine(Xc (a:=8) (by omega) _).trans<|(ABp (by omega) _).trans ?_
  refine(Qo (Nat.pow_pos (by decide)) (by omega) _).trans<|(Tf (b:=256) (by decide) _).trans<|(cv8 _).trans ?_
  refine(app1 (Or.inl rfl) (by omega) _ (Nat.mod_lt _ (by decide)) _).trans ?_
  rw[AAv]
  refine(AA (KW _ _ _) _).trans ?_
  rw[wrap_i64 (by omega) (by omega),Nat.mod_mod]
  have:=ih (i+1) (p++[lb (8*N) i]) (by omega) (by simp;omega) (by simp;omega)
  rw[List.append_assoc,List.singleton_append,lb,show 56-8*i=8*n by omega]at this
  rw[Gx,lb,show 56-8*i=8*n by omega]
  exact this
theorem AMT (s:List UInt8) (hs:s.length<2147483648):∀(n:Nat) (p:List UInt8),MF p.length=n→p.length+n<2147482000→
 Nv (.str s) (bL .own p) []=
  some (.str (Ff (blocks ((p++List.replicate n 0++Gx (8*s.length) 8 0).length/64) ER (p++List.replicate n 0++Gx (8*s.length) 8 0)) 32 0 (List.replicate 32 0)),[]):=by
 intro n
 induction n with
 |zero=>
  intro p hp hl
  rw[Pz,U1]
  refine Jf _ |>.trans ?_
  refine(AA (KX _ _ _ (by omega)) _).trans ?_
  rw[show(p.length:Int).tmod 64=((p.length%64:Nat):Int)by rfl]
  simp only[MF]at hp
  refine(APK (by omega) _).trans ?_
  rw[BL,AAs,List.replicate_zero,List.append_nil]
  refine(AA (show lenV P 9 (.str s)=some (.int .i64 (s.length:Int))by simp[lenV,TL]) _).trans ?_
  refine(Xc (a:=8) (by omega) _).trans ?_
  refine(AA (Ce Em ..) _).trans ?_
  rw[wrap_u64 (by omega) (by omega),AAt]
  exact AMS s.length hs 8 0 p rfl (by omega) (by omega)
 |succ n ih=>
  intro p hp hl
  rw[Pz,U1]
  refine Jf _ |>.trans ?_
  refine(AA (KX _ _ _ (by omega)) _).trans ?_
  rw[show(p.length:Int).tmod 64=((p.length%64:Nat):Int)by rfl]
  simp only[MF]at hp
  refine(APJ (by omega) _).trans ?_
  rw[BK,AAr]
  refine(app1 (Or.inl rfl) (by omega) 0 (by omega) _).trans ?_
  have:=ih (p++[0]) (by simp only[MF,List.length_append,List.length_cons,List.length_nil];omega) (by simp;omega)
  rw[List.append_assoc p [0],List.singleton_append]at this
  exact this
theorem AFH {B:Type} {h:List V} {s:List UInt8} (hs:s.length≤2147483648) (K:V→Option B):(conv P h 9 172 (.str s)).bind K=K (bL .own s):=
 AA (by simp[conv,JD,Qa,Dp,hs,bL]) K
theorem AFI {s:List UInt8} (hs:s.length<2147480000):Cl 151 [.str s] []=some (.str (Xd s),[]):=by
 rw[AHp,AAp,AAq]
 refine(AFH (by omega) _).trans ?_
 refine(app1 (Or.inl rfl) (by omega) 128 (by omega) _).trans ?_
 have z:MF (s.length+1)<64:=Nat.mod_lt _ (by decide)
 exact AMT s (by omega) (MF (s.length+1)) (s++[128]) (by simp) (by simp;omega)
end
section
open Go AM
def NR:Nat→Nat→List UInt8
 |0,_=>[]
 |f+1,n=>if n<128 then[UInt8.ofNat n]else UInt8.ofNat (n%128+128)::NR f (n/128)
def BG (n:Nat):List UInt8:=NR 10 n
theorem Ap:∀f n,(NR f n).length≤f
 |0,_=>by simp[NR]
 |f+1,n=>by
  rw[NR];split
  ·simp
  ·have:=Ap f (n/128);simp;omega
def BA (f:Fl) (l:List UInt8):V:= .agg 190 [bL f l]
def DF (id:Nat):V:= .ref id [] 191
abbrev OK (f:Fl):Prop:=f= .own∨f= .nil
theorem ARt (a:Nat) (ha:a<256):AL .or (.int .u8 (a:Int)) (.int .u8 128)=some (.int .u8 ((a%128+128:Nat):Int)):=by
 have h:∀x:Fin 256,x.val|||128=x.val%128+128:=by decide
 have e:=h ⟨a,ha⟩
 rw[show(128:Int)=((128:Nat):Int)from rfl,AOT,Cc,Cc,show(BitVec.ofNat (IntKind.u8).bits a|||BitVec.ofNat (IntKind.u8).bits 128).toNat=a|||128 from AKe (w:=8) (by omega) (by omega),e,wrap_u8 (by omega) (by omega)]
theorem Qs {B:Type} {id:Nat} (K:V→Option B):(BD (DF id)).bind K=K (DF id):=rfl
theorem ZH {B:Type} {id:Nat} (K:V→Option B):(BH P 191 0 (DF id)).bind K=K (.ref id [0] 172):=
 AA (Qc (P:=P) (t:=191) (f:=0) AEm rfl (by rw[AIM];decide) id []) K
def wk:Fl→Fl
 | .own=> .sh
 |f=>f
theorem ABr (f:Fl) (l:List UInt8):(bL f l).weak=bL (wk f) l:=by cases f<;>rfl
theorem OY {B:Type} {h:List V} {id:Nat} {f:Fl} {l:List UInt8} (hh:h[id]?=some (BA f l)) (K:V×List V→Option B):
 (BN h 172 (.ref id [0] 172)).bind K=K (bL f l,h.set id (BA (wk f) l)):=by
 refine AA ?_ K
 have r:rd h id [0]=some (bL f l):=L6 hh rfl
 simp[BN,r,wr,hh,BA,V.upd,ABr]
theorem tyB (f:Fl) (l:List UInt8):Bj P 172 (bL f l)=true:=by simp[Bj,EC,bL]
theorem unB (n:Nat) {f:Fl} (hf:f≠ .lent) (l:List UInt8):(bL f l).under n=true:=by cases f<;>first|rfl|exact absurd rfl hf
theorem ZI {B:Type} {h:List V} {id:Nat} {f:Fl} {l m:List UInt8} (hh:h[id]?=some (BA f l)) (K:List V→Option B):
 (Gu P h 172 (.ref id [0] 172) (bL .own m)).bind K=K (h.set id (BA .own m)):=by
 refine AA ?_ K
 exact OQ hh rfl (tyB _ _) (unB _ (by intro h;cases h) _)
theorem Gy (h:List V):Cl 68 [] h=some (DF h.length,h++[BA .nil []]):=by
 rw[ALj,AER,AES]
 have b:bld P 191 []=some (BA .nil []):=by simp[bld,AEm,ALu,Bv,BA,bL,bytesOf]
 refine(AA b _).trans ?_
 have w:(BA .nil []).weak=BA .nil []:=rfl
 have c:(Bj P 191 (BA .nil [])&&V.under h.length (BA .nil []))=true:=by simp[Bj,AEm,BA,V.under,AZ,bL]
 rw[w,if_pos c];rfl
theorem AMU {n:Nat} {h:List V}:(if(List.all [] V.okE)=true then AP n h (V.tup [])else none)=some (.tup [],h.take n):=rfl
theorem Gz {h:List V} {id:Nat} {a b:V}:(h.set id a).set id b=h.set id b:=by simp
theorem AMV {id:Nat} (h0:List V) (hid:id<h0.length):∀(k n:Nat) (f:Fl) (l:List UInt8) (h:List V),h=h0.set id (BA f l)→OK f→n<128^k→n<18446744073709551616→0<k→l.length+k≤2147483648→
 Us (DF id) (.int .u64 (n:Int)) h0.length h=some (.tup [],h0.set id (BA .own (l++NR k n))):=by
 intro k
 induction k with
 |zero=>intro n f l h _ _ _ _ h0 _;omega
 |succ k ih=>
  intro n f l h eh hf hn h64 _ hl
  have hh:h[id]?=some (BA f l):=by rw[eh,List.getElem?_set];simp[hid]
  have hw:(h.set id (BA (wk f) l))[id]?=some (BA (wk f) l):=KY _ hh
  rw[ACs,AET]
  by_cases hb:n<128
  ·refine(AMH (by omega) _).trans ?_
   rw[BL,AEW]
   refine(Qs _).trans<|(ZH _).trans<|(OY hh _).trans ?_
   refine(cv8 _).trans<|(app1 hf (by omega) _ (Nat.mod_lt _ (by decide)) _).trans<|(Qs _).trans<|(ZH _).trans<|(ZI hw _).trans ?_
   rw[AMU,Gz,Nat.mod_eq_of_lt (by omega),NR,if_pos hb,eh,Gz,List.take_of_length_le (by simp)]
  ·refine(AMG (by omega) _).trans ?_
   rw[BK,AEU]
   refine(Qs _).trans<|(ZH _).trans<|(OY hh _).trans ?_
   refine(cv8 _).trans<|(AA (ARt _ (Nat.mod_lt _ (by decide))) _).trans<|(app1 hf (by omega) _ (by omega) _).trans<|(Qs _).trans<|(ZH _).trans<|(ZI hw _).trans ?_
   rw[AEV]
   have hs:AL .shr (.int .u64 (n:Int)) (.int .u64 7)=some (.int .u64 ((n/128:Nat):Int)):=by
    rw[XU _ _ _ _ (by omega)]
    have:min ((7:Int)).toNat (IntKind.u64).bits=7:=by decide
    rw[this];exact congrArg _ (congrArg _ (Qk n 7))
   refine(AA hs _).trans ?_
   rw[Gz,show n%256%128=n%128 by omega,NR,if_neg hb]
   have k0:0<k:=by
    rcases Nat.eq_zero_or_pos k with h|h
    ·subst h;simp at hn;omega
    ·exact h
   have:=ih (n/128) .own (l++[UInt8.ofNat (n%128+128)]) (h.set id (BA .own (l++[UInt8.ofNat (n%128+128)]))) (by rw[eh,Gz]) (Or.inl rfl) (by rw[Nat.pow_succ]at hn;omega) (by omega) k0 (by simp;omega)
   rw[List.append_assoc,List.singleton_append]at this
   exact this
theorem Dn {h:List V} {id n:Nat} {f:Fl} {l:List UInt8} (hh:h[id]?=some (BA f l)) (hf:OK f) (hn:n<18446744073709551616) (hl:l.length+10≤2147483648):
 Cl 69 [DF id,.int .u64 (n:Int)] h=some (.tup [],h.set id (BA .own (l++BG n))):=by
 rw[ALk]
 exact AMV h (Qd hh) 10 n f l h (AIO hh).symm hf (Nat.lt_of_lt_of_le hn (by decide)) hn (by omega) hl
theorem AKm (id:Nat) (x:Int) (k:IntKind):AQ [DF id,.int k x]=[DF id,.int k x]:=rfl
theorem Qu {h:List V} {id:Nat} {f:Fl} {l s:List UInt8} (hh:h[id]?=some (BA f l)) (hf:OK f) (hl:l.length+10+s.length≤2147483648):
 Cl 70 [DF id,.str s] h=some (.tup [],h.set id (BA .own (l++BG s.length++s))):=by
 have nl:=Ap 10 s.length
 rw[ALl,AEX]
 refine(AA (show lenV P 9 (.str s)=some (.int .i64 (s.length:Int))by simp[lenV,TL]) _).trans ?_
 refine(AA (Ce Em ..) _).trans ?_
 rw[wrap_u64 (by omega) (by omega),AKm]
 refine(AA (Dn hh hf (by omega) (by omega)) _).trans ?_
 have h2:=KY (BA .own (l++BG s.length)) hh
 rw[AEY]
 refine(Qs _).trans<|(ZH _).trans<|(OY h2 _).trans ?_
 refine(AA (ACw EC (Or.inl rfl) (y:=V.str s) (ys:=bytesOf s) rfl (CP s) (GX s) (by rw[Af,Af,List.length_append,BG];omega) XR) _).trans ?_
 rw[←GV]
 refine(Qs _).trans<|(ZH _).trans<|(ZI (KY _ h2) _).trans ?_
 rw[AMU,Gz,Gz,List.take_of_length_le (by simp)]
theorem Fh {h:List V} {id:Nat} {f:Fl} {l:List UInt8} (hh:h[id]?=some (BA f l)):Cl 71 [DF id] h=some (.str l,h):=by
 rw[ALm,AEZ,AEa]
 refine(Qs _).trans<|(ZH _).trans ?_
 have r:rd h id [0]=some (bL f l):=L6 hh rfl
 refine(AA (show CW h 172 (.ref id [0] 172)=some (bL (wk f) l)by simp[CW,Cf r,ABr]) _).trans ?_
 refine(AA (show conv P h 172 9 (bL (wk f) l)=some (.str l)by simp[conv,TL,JD,Qa,bL,Ac,Qr]) _).trans ?_
 rw[VD,List.take_of_length_le (Nat.le_refl _)]
def Xn (n:Int):Nat:=if 0≤n then(2*n).toNat else(-2*n-1).toNat
theorem Tm {h:List V} {id:Nat} {n:Int} {f:Fl} {l:List UInt8} (hh:h[id]?=some (BA f l)) (hf:OK f) (h1: -9223372036854775808≤n) (h2:n<9223372036854775808) (hl:l.length+10≤2147483648):
 Cl 129 [DF id,.int .i64 n] h=some (.tup [],h.set id (BA .own (l++BG (Xn n)))):=by
 rw[AHk,AAc]
 refine(AA (Ce Em ..) _).trans ?_
 refine(AA (AKb _ _ _ _ (by omega)) _).trans ?_
 refine(AA (XU _ _ _ _ (by omega)) _).trans ?_
 have m1:min ((1:Int)).toNat (IntKind.u64).bits=1:=by decide
 have m63:min ((63:Int)).toNat (IntKind.i64).bits=63:=by decide
 rw[m1,m63]
 refine(AA (Ce Em ..) _).trans ?_
 have key:AL .xor (.int .u64 (IntKind.wrap .u64 (IntKind.wrap .u64 n*2^1))) (.int .u64 (IntKind.wrap .u64 (n.fdiv (2^63))))=some (.int .u64 ((Xn n:Nat):Int)):=by
  rw[GU,GU,GU]
  by_cases hn:0≤n
  ·have e1:n%18446744073709551616*2^1%18446744073709551616=(((2*n).toNat:Nat):Int):=by omega
   have e2:n.fdiv (2^63)%18446744073709551616=((0:Nat):Int):=by
    rw[Int.fdiv_eq_ediv_of_nonneg _ (by decide)];omega
   rw[e1,e2,u64_xor (by omega) (by omega),Nat.xor_zero,Xn,if_pos hn]
  ·have e1:n%18446744073709551616*2^1%18446744073709551616=((18446744073709551615-(-2*n-1).toNat:Nat):Int):=by omega
   have e2:n.fdiv (2^63)%18446744073709551616=((18446744073709551615:Nat):Int):=by
    rw[Int.fdiv_eq_ediv_of_nonneg _ (by decide)];omega
   have hb:(-2*n-1).toNat<18446744073709551616:=by omega
   rw[e1,e2,u64_xor (by omega) (by omega),Xn,if_neg hn]
   generalize (-2*n-1).toNat=m at hb
   have hx:∀x:Nat,x<18446744073709551616→x ^^^ 18446744073709551615=18446744073709551615-x:=by
    intro x hx
    apply Nat.eq_of_testBit_eq
    intro i
    rw[show 18446744073709551615-x=2^64-(x+1)by omega,Nat.testBit_two_pow_sub_succ (n:=64) hx i,Nat.testBit_xor,show(18446744073709551615:Nat)=2^64-1 by rfl,Nat.testBit_two_pow_sub_one]
    by_cases hi:i<64
    ·simp[hi]
    ·have:x.testBit i=false:=Nat.testBit_lt_two_pow (Nat.lt_of_lt_of_le hx (Nat.pow_le_pow_right (n:=2) (i:=64) (by decide) (by omega)))
     simp[hi,this]
   rw[hx _ (by omega)]
   congr 3;omega
 refine(AA key _).trans ?_
 rw[AKm]
 have hu:Xn n<18446744073709551616:=by simp only[Xn];split<;>omega
 refine(AA (Dn hh hf hu hl) _).trans ?_
 rw[AMU,List.take_of_length_le (by simp)]
end
section
open Go AM
structure Vtx where
 id:Int
 val:Int
 act:Bool
 has:Bool
 inn:Int
 deriving DecidableEq
def JI (x:Vtx):Prop:=I64 x.id∧I64 x.val∧I64 x.inn
abbrev tVx:TypeId:=85
def Ci (x:Vtx):V:= .agg tVx [.int .i64 x.id,.int .i64 x.val,.bool x.act,.bool x.has,.int .i64 x.inn]
@[go_sem] theorem AMW (x:Vtx):(Ci x).pl=true:=(rfl)
@[go_sem] theorem ABt (l:List Vtx):IA (l.map Ci)=true:=CX (fun _=>rfl) l
@[go_sem] theorem AQm (x:Vtx):tyG tVx (Ci x)=true:=Qi ..
@[go_sem] theorem AQn (l:List Vtx):(l.map Ci).all (tyG tVx)=true:=all_map (fun _=>Qi ..) l
theorem APQ {l:List Vtx} {i:Nat} (h:i<l.length):(l.map Ci)[i]?=some (Ci l[i]):=by simp[h]
end
section
open Go AM
abbrev iv (n:Nat):V:= .int .i64 (n:Int)
theorem ABu {B:Type} {h:List V} {x:Int} (h0:0≤x) (h1:x<9223372036854775808) (K:V→Option B):(conv P h 3 132 (.int .i64 x)).bind K=K (.int .u64 (x.toNat:Int)):=by
 refine(AA (Ce Em ..) _).trans ?_
 rw[wrap_u64 (by omega) (by omega)]
 congr 2;omega
def sL (f:Fl) (l:List (List UInt8)):V:= .lst 9 f (l.map V.str)
theorem AKn (s:List UInt8):Bj P 9 (.str s)=true:=by simp[Bj,K_9,Bq,TL]
theorem AMX (n:Nat) (h:List V) (f:Fl) (hf:f≠ .lent) (l:List (List UInt8)):AP n h (sL f l)=some (sL .sh l,h.take n):=by
 cases f<;>first|exact absurd rfl hf|rfl
theorem Tn:∀(n:Nat) (l:List (List UInt8)),AZ n (l.map V.str)=true
 |_,[]=>rfl
 |n,x::l=>by simp only[List.map_cons,AZ,Tn n l];rfl
theorem AFJ (n:Nat) (f:Fl) (l:List (List UInt8)):(sL f l).under n=true:=by cases f<;>first|rfl|exact Tn n l
theorem APR {B:Type} {f:Fl} {h:List V} {l:List (List UInt8)} (hf:OK f) (hl:l.length+1≤2147483648) (x:List UInt8) (K':V→Option B):
 (CS P 42 1 [(0,.str x)]).bind (fun y=>(Du P 42 h (sL f l) y).bind K')=K' (sL .own (l++[x])):=by
 refine(AA (AE5 ALs (AKn x) rfl AOR ⟨_,rfl⟩) _).trans ?_
 have t1:GL P 9 [V.str x]=true:=by simp[GL,AKn]
 refine(AA (ACw ALs hf (y:=V.lst 9 .own [.str x]) rfl rfl t1 (by simpa using hl) AOR) _).trans ?_
 rw[sL,List.map_append];rfl
end
end Go.Proofs.YtoakaehjnbhgmaaGreatDoor
