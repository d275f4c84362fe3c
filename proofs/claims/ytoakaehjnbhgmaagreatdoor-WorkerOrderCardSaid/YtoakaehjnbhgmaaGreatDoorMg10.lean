/-
  Part of the proof of a statement about the given program: an abstract machine over its code, the simulation, its functions' equations, what they compute.
-/
import Derived.Test.YtoakaehjnbhgmaaGreatDoorMg5
import Derived.Test.YtoakaehjnbhgmaaGreatDoorMg6
import Derived.Test.YtoakaehjnbhgmaaGreatDoorMg7
import Derived.Test.YtoakaehjnbhgmaaGreatDoorMg8
import Derived.Test.YtoakaehjnbhgmaaGreatDoorMg9
set_option linter.unusedVariables false
set_option linter.unusedSimpArgs false
set_option linter.unusedSectionVars false
set_option maxRecDepth 100000
noncomputable section
namespace Go.Proofs.YtoakaehjnbhgmaaGreatDoor
section
open Go AM
theorem Ku {ty:V→Bool} {H:List V} {z v:V} (ht:ty v=true) (hu:v.under (H.length+1)=true) (t:TypeId):Cb ty t (H++[z]) (.ref H.length [] t) v=some (H++[v]):=by
 rw[AMS (by simp) ht hu,AE3]
theorem Xh (H:List V) (v:V) (t:TypeId):AU (H++[v]) t (.ref H.length [] t)=some v:=Cj (FZ (Xf H v))
end
section
open Go AM
end
section
open Go AM
def vIn (s:List UInt8) (e:Nat):V:= .agg 195 [.str s,.int .i64 (e:Int)]
def rIn (id:Nat):V:= .ref id [] 196
theorem Kv (n:Nat) (h:List V) (k:IntKind) (b:Int):AP n h (.int k b)=some (.int k b,h.take n):=rfl
theorem VN (n:Nat) (h:List V) (s:List UInt8):AP n h (.str s)=some (.str s,h.take n):=rfl
end
section
open Go AM
end
section
open Go AM
structure Msg where
 fr:Int
 to:Int
 val:Int
 deriving DecidableEq
def Aa (m:Msg):V:= .agg 151 [.int .i64 m.fr,.int .i64 m.to,.int .i64 m.val]
end
section
open Go AM
@[go_sem] theorem AQ6 (m:Msg):(Aa m).pl=true:=(rfl)
@[go_sem] theorem AE4 (l:List Msg):IB (l.map Aa)=true:=CY (fun _=>rfl) l
@[go_sem] theorem Xi (m:Msg):tyG 151 (Aa m)=true:=Qp ..
@[go_sem] theorem APQ (l:List Msg):(l.map Aa).all (tyG 151)=true:=all_map (fun _=>Qp ..) l
end
section
open Go AM
def vw (n:Nat):V:= .int .u32 (n:Int)
def Kw (l:List Nat):List V:=l.map vw
def A8 (l:List Nat):V:= .agg 247 (Kw l)
def SV (l:List Nat):V:= .agg 261 (Kw l)
def B32 (l:List Nat):Prop:=∀x∈l,x<4294967296
def EF (x n:Nat):Nat:=x*2^(32-n)%4294967296|||x/2^n
theorem Ah {x n:Nat} (hx:x<4294967296):EF x n<4294967296:=
 Nat.or_lt_two_pow (n:=32) (Nat.mod_lt _ (by decide)) (Nat.lt_of_le_of_lt (Nat.div_le_self _ _) hx)
theorem GX (n:Int):IntKind.wrap .u64 n=n%18446744073709551616:=by simp[IntKind.wrap,IntKind.bits,IntKind.signed]
theorem Qq (a n:Nat):Int.fdiv (a:Int) (2^n)=((a/2^n:Nat):Int):=by
 have e:(2:Int)^n=((2^n:Nat):Int):=by push_cast;rfl
 rw[e,Int.fdiv_eq_ediv_of_nonneg _ (Int.natCast_nonneg _)];rfl
theorem OY {a:Nat} (n:Nat) (hn:n≤32):AL .shr (.int .u32 (a:Int)) (.int .u64 (n:Int))=some (.int .u32 ((a/2^n:Nat):Int)):=by
 rw[Xe _ _ _ _ (by omega)]
 have:min ((n:Int)).toNat (IntKind.u32).bits=n:=by simp[IntKind.bits];omega
 rw[this,Qq]
theorem OZ {a:Nat} (n:Nat) (hn:n≤32):AL .shl (.int .u32 (a:Int)) (.int .u64 (n:Int))=some (.int .u32 ((a*2^n%4294967296:Nat):Int)):=by
 rw[AK1 _ _ _ _ (by omega)]
 have:min ((n:Int)).toNat (IntKind.u32).bits=n:=by simp[IntKind.bits];omega
 rw[this]
 have e:((a:Int)*2^n)=((a*2^n:Nat):Int):=by push_cast;rfl
 rw[e,Hl]
theorem AIs (a b:Nat):AL .add (.int .u32 (a:Int)) (.int .u32 (b:Int))=some (.int .u32 (((a+b)%4294967296:Nat):Int)):=by
 rw[Cf,show(a:Int)+(b:Int)=((a+b:Nat):Int)by omega,Hl]
theorem AIt {x:Nat} (hx:x<4294967296) (n:Nat) (h1:1≤n) (h2:n≤31):Cl 211 [.int .u32 (x:Int),.int .i64 (n:Int)] []=some (.int .u32 (EF x n:Int),[]):=by
 have key:Cl 225 [.int .u32 (x:Int),.int .i64 (-(n:Int))] []=some (.int .u32 (EF x n:Int),[]):=by
  rw[AIi]
  have w:IntKind.wrap .u64 (-(n:Int))=((18446744073709551616-n:Nat):Int):=by rw[GX];omega
  have m:(18446744073709551616-n)&&& 31=32-n:=by
   rw[show(31:Nat)=2^5-1 from rfl,Nat.and_two_pow_sub_one_eq_mod];omega
  simp only[ABt,ABu,ABv,Ci VI,w,Option.bind_some]
  rw[show(31:Int)=((31:Nat):Int)from rfl,u64_and (by omega) (by omega),m,Option.bind_some,OZ _ (by omega),Option.bind_some,KZ,show(32:Int)-((32-n:Nat):Int)=(n:Int)by omega,wrap_u64 (by omega) (by omega),Option.bind_some,OY _ (by omega),Option.bind_some,
   u32_or (Nat.mod_lt _ (by decide)) (Nat.lt_of_le_of_lt (Nat.div_le_self _ _) hx),Option.bind_some,Kv]
  rfl
 rw[AIh]
 have ng:un .neg (.int .i64 (n:Int))=some (.int .i64 (-(n:Int))):=by
  simp only[un];rw[show(0:Int)-(n:Int)= -(n:Int)by omega,wrap_i64 (by omega) (by omega)]
 have e:AB [] [V.int .u32 (x:Int),V.int .i64 (-(n:Int))]=[V.int .u32 (x:Int),V.int .i64 (-(n:Int))]:=rfl
 simp only[ABr,ABs,ng,Option.bind_some,e,key]
 rfl
theorem APR {h:List V} {x:Nat} (hx:x<4294967296) (n:Nat) (h1:1≤n) (h2:n≤31):Cl 211 (AB h [.int .u32 (x:Int),.int .i64 (n:Int)]) []=some (.int .u32 (EF x n:Int),[]):=AIt hx n h1 h2
theorem JH {l:List Nat} {i:Nat} (hi:i<l.length):(Kw l)[i]?=some (vw (l.getD i 0)):=by
 simp[Kw,List.getElem?_map,List.getElem?_eq_getElem hi]
theorem B32.get {l:List Nat} (h:B32 l) (i:Nat):l.getD i 0<4294967296:=by
 rcases Nat.lt_or_ge i l.length with hi|hi
 ·rw[List.getD_eq_getElem?_getD,List.getElem?_eq_getElem hi];exact h _ (List.getElem_mem hi)
 ·rw[List.getD_eq_getElem?_getD,List.getElem?_eq_none hi];decide
theorem ABz (l:List Nat) (i x:Nat):(Kw l).set i (vw x)=Kw (l.set i x):=by simp[Kw,List.map_set]
theorem AMY {id i:Nat} (hi:i<64):AX P 261 (.ref id [] 261) (.int .i64 (i:Int))=some (.ref id [i] 203):=by
 have:inside (i:Int) 64=true:=by simp[inside];omega
 simp[AX,AK0,this]
theorem ix8 {id i:Nat} (hi:i<8):AX P 247 (.ref id [] 247) (.int .i64 (i:Int))=some (.ref id [i] 203):=by
 have:inside (i:Int) 8=true:=by simp[inside];omega
 simp[AX,NS,this]
theorem ixK {i:Nat} (hi:i<64) {l:List Nat} (hl:l.length=64):AX P 261 (.rop 261 (SV l)) (.int .i64 (i:Int))=some (.rop 203 (vw (l.getD i 0))):=by
 have:inside (i:Int) 64=true:=by simp[inside];omega
 simp[AX,AK0,this,SV,JH (show i<l.length by omega)]
theorem APS (x:Nat):Bo P 203 (vw x)=true:=by simp[Bo,AKz,Bq,VJ,vw]
theorem AR5 {h:List V} {id i:Nat} {l:List Nat} (hh:h[id]?=some (SV l)) (hi:i<l.length):AU h 203 (.ref id [i] 203)=some (vw (l.getD i 0)):=Cj (MF hh (JH hi))
theorem ld8 {h:List V} {id i:Nat} {l:List Nat} (hh:h[id]?=some (A8 l)) (hi:i<l.length):AU h 203 (.ref id [i] 203)=some (vw (l.getD i 0)):=Cj (MF hh (JH hi))
theorem APT {h:List V} {id i x:Nat} {l:List Nat} (hh:h[id]?=some (SV l)) (hi:i<l.length):Gv P h 203 (.ref id [i] 203) (vw x)=some (h.set id (SV (l.set i x))):=by
 rw[OX hh (JH hi) (APS x) rfl,ABz];rfl
theorem st8 {h:List V} {id i x:Nat} {l:List Nat} (hh:h[id]?=some (A8 l)) (hi:i<l.length):Gv P h 203 (.ref id [i] 203) (vw x)=some (h.set id (A8 (l.set i x))):=by
 rw[OX hh (JH hi) (APS x) rfl,ABz];rfl
def wordAt (p:List UInt8) (t:Nat):Nat:=((p.getD (4*t) 0).toNat*2^24%4294967296|||(p.getD (4*t+1) 0).toNat*2^16%4294967296)|||(p.getD (4*t+2) 0).toNat*2^8%4294967296|||(p.getD (4*t+3) 0).toNat
def Jh (p:List UInt8):Nat→Nat→List Nat→List Nat
 |0,_,w=>w
 |n+1,t,w=>Jh p n (t+1) (w.set t (wordAt p t))
theorem MH (p:List UInt8) (t:Nat):wordAt p t<4294967296:=by
 have h3:(p.getD (4*t+3) 0).toNat<2^32:=Nat.lt_of_lt_of_le (UInt8.toNat_lt _) (by decide)
 refine Nat.or_lt_two_pow (n:=32) (Nat.or_lt_two_pow (n:=32) (Nat.or_lt_two_pow (n:=32) (Nat.mod_lt _ (by decide)) (Nat.mod_lt _ (by decide))) (Nat.mod_lt _ (by decide))) h3
theorem B32.set {l:List Nat} (h:B32 l) (i:Nat) {x:Nat} (hx:x<4294967296):B32 (l.set i x):=by
 intro y hy
 rcases List.mem_or_eq_of_mem_set hy with hy|rfl
 ·exact h y hy
 ·exact hx
theorem Xj (p:List UInt8):∀(n t:Nat) (w:List Nat),B32 w→w.length=64→B32 (Jh p n t w)∧(Jh p n t w).length=64
 |0,_,w,h,hl=>⟨h,hl⟩
 |n+1,t,w,h,hl=>Xj p n (t+1) _ (h.set t (MH p t)) (by simp[hl])
theorem MI {p:List UInt8} {i:Nat} (hi:i<p.length):(bytesOf p)[i]?=some (.int .u8 ((p.getD i 0).toNat:Int)):=by
 simp[bytesOf,List.getElem?_map,List.getElem?_eq_getElem hi]
theorem ixB {xs:List V} {f:Fl} {i:Nat} {v:V} (hv:xs[i]?=some v):AX P 172 (.lst 5 f xs) (.int .i64 (i:Int))=some (.rop 5 v):=by
 have hi:=Ql hv
 have:inside (i:Int) xs.length=true:=by simp[inside,hi]
 simp[AX,D9,this,hv]
theorem ixW {xs:List V} {f:Fl} {i:Nat} {v:V} (hv:xs[i]?=some v):AX P 172 (V.weak (.lst 5 f xs)) (.int .i64 (i:Int))=some (.rop 5 v):=by
 cases f<;>exact ixB hv
theorem AIu {h:List V} {f:Fl} {p:List UInt8} {t:Nat} {l:List Nat} (hp:4*t+4≤p.length) (ht:t<64) (hh:h[2]?=some (SV l)) (hl:l.length=64) (K:List V→Option (V×List V)):
 VF (.ref 2 [] 261) (.int .i64 (t:Int)) (.lst 5 f (((bytesOf p).take (4*t+4)).drop (4*t))) h K=K (h.set 2 (SV (l.set t (wordAt p t)))):=by
 have g:∀j,j<4→(((bytesOf p).take (4*t+4)).drop (4*t))[j]?=some (.int .u8 ((p.getD (4*t+j) 0).toNat:Int)):=by
  intro j hj
  rw[List.getElem?_drop,List.getElem?_take_of_lt (by omega),MI (by omega)]
 have i0:=ixW (f:=f) (g 0 (by omega));have i1:=ixW (f:=f) (g 1 (by omega));have i2:=ixW (f:=f) (g 2 (by omega));have i3:=ixW (f:=f) (g 3 (by omega))
 have b:∀j,(p.getD j 0).toNat<256:=fun j=>UInt8.toNat_lt _
 have c:∀x:Nat,x<256→conv P h 5 203 (.int .u8 (x:Int))=some (.int .u32 (x:Int)):=fun x hx=>by rw[Ci VJ,wrap_u32 (by omega) (by omega)]
 have s24:∀x:Nat,AL .shl (.int .u32 (x:Int)) (.int .u64 24)=some (.int .u32 ((x*2^24%4294967296:Nat):Int)):=fun x=>OZ (a:=x) 24 (by omega)
 have s16:∀x:Nat,AL .shl (.int .u32 (x:Int)) (.int .u64 16)=some (.int .u32 ((x*2^16%4294967296:Nat):Int)):=fun x=>OZ (a:=x) 16 (by omega)
 have s8:∀x:Nat,AL .shl (.int .u32 (x:Int)) (.int .u64 8)=some (.int .u32 ((x*2^8%4294967296:Nat):Int)):=fun x=>OZ (a:=x) 8 (by omega)
 have m:∀x:Nat,x%4294967296<4294967296:=fun x=>Nat.mod_lt _ (by decide)
 have o1:=Nat.or_lt_two_pow (n:=32) (m ((p.getD (4*t+0) 0).toNat*2^24)) (m ((p.getD (4*t+1) 0).toNat*2^16))
 have o2:=Nat.or_lt_two_pow (n:=32) o1 (m ((p.getD (4*t+2) 0).toNat*2^8))
 simp only[VF]
 rw[show(0:Int)=((0:Nat):Int)from rfl,show(1:Int)=((1:Nat):Int)from rfl,show(2:Int)=((2:Nat):Int)from rfl,show(3:Int)=((3:Nat):Int)from rfl,i0,i1,i2,i3]
 simp only[Option.bind_some,Eo,c _ (b _),s24,s16,s8]
 rw[u32_or (m _) (m _)]
 simp only[Option.bind_some]
 rw[u32_or o1 (m _)]
 simp only[Option.bind_some]
 rw[u32_or o2 (by have:=b (4*t+3);omega)]
 simp only[Option.bind_some]
 rw[AMY ht,Option.bind_some]
 exact(congrArg (fun z=>Option.bind z fun h_1=>K h_1) (APT (x:=wordAt p t) hh (by omega))).trans rfl
end
section
open Go AM
def sg0 (x:Nat):Nat:=(EF x 7 ^^^ EF x 18) ^^^ x/2^3
def sg1 (x:Nat):Nat:=(EF x 17 ^^^ EF x 19) ^^^ x/2^10
def ad (a b:Nat):Nat:=(a+b)%4294967296
def Ji:Nat→Nat→List Nat→List Nat
 |0,_,w=>w
 |n+1,t,w=>Ji n (t+1) (w.set t (ad (ad (ad (w.getD (t-16) 0) (w.getD (t-7) 0)) (sg0 (w.getD (t-15) 0))) (sg1 (w.getD (t-2) 0))))
theorem Tc (a b:Nat):ad a b<4294967296:=Nat.mod_lt _ (by decide)
theorem Dh {a b:Nat} (ha:a<4294967296) (hb:b<4294967296):a ^^^ b<4294967296:=Nat.xor_lt_two_pow (n:=32) ha hb
theorem AE5 {a b:Nat} (ha:a<4294967296) (hb:b<4294967296):a|||b<4294967296:=Nat.or_lt_two_pow (n:=32) ha hb
theorem D5 {a b:Nat} (ha:a<4294967296):a&&& b<4294967296:=Nat.lt_of_le_of_lt Nat.and_le_left ha
theorem JI {a:Nat} (n:Nat) (ha:a<4294967296):a/n<4294967296:=Nat.lt_of_le_of_lt (Nat.div_le_self _ _) ha
theorem Fb (a b:Nat):AL .add (.int .u32 (a:Int)) (.int .u32 (b:Int))=some (.int .u32 (ad a b:Int)):=AIs a b
theorem Xk:∀(n t:Nat) (w:List Nat),B32 w→w.length=64→B32 (Ji n t w)∧(Ji n t w).length=64
 |0,_,w,h,hl=>⟨h,hl⟩
 |n+1,t,w,h,hl=>Xk n (t+1) _ (h.set t (Tc _ _)) (by simp[hl])
def rnd (k:List Nat) (w:List Nat) (t:Nat) (v:List Nat):List Nat:=
 let a:=v.getD 0 0;let b:=v.getD 1 0;let c:=v.getD 2 0;let e:=v.getD 4 0;let f:=v.getD 5 0;let g:=v.getD 6 0
 let x:=ad (ad (ad (ad (v.getD 7 0) ((EF e 6 ^^^ EF e 11) ^^^ EF e 25)) (g ^^^ (e&&& (f ^^^ g)))) (k.getD t 0)) (w.getD t 0)
 let y:=ad ((EF a 2 ^^^ EF a 13) ^^^ EF a 22) ((a&&& b)|||(c&&& (a|||b)))
 [ad x y,a,b,c,ad (v.getD 3 0) x,e,f,g]
def Qr (k w:List Nat):Nat→Nat→List Nat→List Nat
 |0,_,v=>v
 |n+1,t,v=>Qr k w n (t+1) (rnd k w t v)
def MJ (v:List Nat):Nat→Nat→List Nat→List Nat
 |0,_,h=>h
 |n+1,i,h=>MJ v n (i+1) (h.set i (ad (h.getD i 0) (v.getD i 0)))
def BV:List Nat:=(match O0 with|V.agg _ l=>l|_=>[]).map fun v=>match v with|V.int _ n=>n.toNat|_=>0
theorem AIw:O0=SV BV:=by kernel_rfl
theorem AK6:BV.length=64:=by kernel_rfl
theorem AK7:B32 BV:=by
 have h:BV.all (fun x=>decide (x<4294967296))=true:=by kernel_rfl
 intro x hx
 have:=List.all_eq_true.1 h x hx
 exact of_decide_eq_true this
def Td (h:List Nat) (p:List UInt8):List Nat:=
 let w:=Ji 48 16 (Jh p 16 0 (List.replicate 64 0))
 MJ (Qr BV w 64 0 h) 8 0 h
theorem ZR {k w v:List Nat} (hv:B32 v) (t:Nat):B32 (rnd k w t v)∧(rnd k w t v).length=8:=by
 refine⟨?_,rfl⟩
 intro x hx
 simp only[rnd,List.mem_cons,List.not_mem_nil,or_false]at hx
 rcases hx with rfl|rfl|rfl|rfl|rfl|rfl|rfl|rfl<;>first|exact Tc _ _|exact hv.get _
theorem AB0 {v:List Nat}:∀(n i:Nat) (h:List Nat),B32 h→h.length=8→B32 (MJ v n i h)∧(MJ v n i h).length=8
 |0,_,h,hb,hl=>⟨hb,hl⟩
 |n+1,i,h,hb,hl=>AB0 n (i+1) _ (hb.set i (Tc _ _)) (by simp[hl])
theorem Tf (h:List V):∀l:List Nat,DC h (Kw l)=Kw l
 |[]=>rfl
 |x::l=>by simp only[Kw,List.map_cons,DC];rw[show List.map vw l=Kw l from rfl,Tf h l];rfl
theorem Xl:∀l:List Nat,AV (Kw l)=Kw l
 |[]=>rfl
 |x::l=>by simp only[Kw,List.map_cons,AV];rw[show List.map vw l=Kw l from rfl,Xl l];rfl
theorem Ti:∀l:List Nat,AQ (Kw l)=true
 |[]=>rfl
 |x::l=>by simp only[Kw,List.map_cons,AQ];rw[show List.map vw l=Kw l from rfl,Ti l];rfl
theorem Xm (n:Nat):∀l:List Nat,Du n (Kw l)=true
 |[]=>rfl
 |x::l=>by simp only[Kw,List.map_cons,Du];rw[show List.map vw l=Kw l from rfl,Xm n l];rfl
theorem FV (n:Nat):∀l:List Nat,AZ n (Kw l)=true
 |[]=>rfl
 |x::l=>by simp only[Kw,List.map_cons,AZ];rw[show List.map vw l=Kw l from rfl,FV n l];rfl
theorem AMa (n:Nat) (h:List V) (l:List Nat):AP n h (A8 l)=some (A8 l,h.take n):=by
 simp only[AP,A8,V.unmut,Tf,V.norm,Xl,V.clean,Ti,V.over,Xm,Bool.and_self,if_true]
theorem AIx (v:List Nat) (hv:v.length=8) (x w z:V):∀(n i:Nat) (hs:List Nat),i+n=8→hs.length=8→
 OV (.ref 0 [] 247) (.ref 1 [] 247) (A8 v) (.int .i64 (i:Int)) [A8 hs,A8 (List.replicate 8 0),w,z]=some (A8 (MJ v n i hs),[]):=by
 intro n
 induction n with
 |zero=>
  intro i hs hi hl
  rw[Qe]
  have:¬((i:Int)<8):=by omega
  have l0:AU [A8 hs,A8 (List.replicate 8 0),w,z] 247 (.ref 0 [] 247)=some (A8 hs):=Cj (FZ rfl)
  have s1:Gv P [A8 hs,A8 (List.replicate 8 0),w,z] 247 (.ref 1 [] 247) (A8 hs)=some [A8 hs,A8 hs,w,z]:=
   Ep rfl (by simp[Bo,NS,A8]) (by simp only[A8,V.under];exact FV _ _)
  have l1:AU [A8 hs,A8 hs,w,z] 247 (.ref 1 [] 247)=some (A8 hs):=Cj (FZ rfl)
  simp only[Qd,Xb,b_lss,Option.bind_some,AE0,this,if_false,l0,s1,l1,AMa,List.take_zero,MJ]
 |succ n ih=>
  intro i hs hi hl
  rw[Qe]
  have hlt:(i:Int)<8:=by omega
  have ix:Lr P 247 (A8 v) (.int .i64 (i:Int))=some (vw (v.getD i 0)):=by
   have:inside (i:Int) 8=true:=by simp[inside];omega
   simp[Lr,A8,NS,this,JH (show i<v.length by omega),cp,AEz]
  have l0:AU [A8 hs,A8 (List.replicate 8 0),w,z] 203 (.ref 0 [i] 203)=some (vw (hs.getD i 0)):=ld8 rfl (by omega)
  have s0:Gv P [A8 hs,A8 (List.replicate 8 0),w,z] 203 (.ref 0 [i] 203) (vw (ad (hs.getD i 0) (v.getD i 0)))=some [A8 (hs.set i (ad (hs.getD i 0) (v.getD i 0))),A8 (List.replicate 8 0),w,z]:=st8 rfl (by omega)
  have a0:AL .add (vw (hs.getD i 0)) (vw (v.getD i 0))=some (vw (ad (hs.getD i 0) (v.getD i 0))):=Fb _ _
  simp only[Qd,XY,XZ,Xa,b_lss,Option.bind_some,AE0,hlt,if_true,ix,ix8 (show i<8 by omega),l0,a0,s0,Cf]
  rw[show((i:Int)+1)=((i+1:Nat):Int)by omega,wrap_i64 (by omega) (by omega)]
  exact ih (i+1) _ (by omega) (by simp[hl])
theorem AR6 {id:Nat} (j:Nat) (hj:j<8):AX P 247 (.ref id [] 247) (.int .i64 (j:Int))=some (.ref id [j] 203):=ix8 hj
theorem at8 {B:Type} {h:List V} {id:Nat} {v:List Nat} (hh:h[id]?=some (A8 v)) (hv:v.length=8) (j:Nat) (hj:j<8) (K:V→Option B):
 (AX P 247 (.ref id [] 247) (.int .i64 (j:Int))).bind (fun a=>(AU h 203 a).bind K)=K (.int .u32 (v.getD j 0:Int)):=by
 rw[AR6 j hj,Option.bind_some,ld8 hh (by omega),Option.bind_some];rfl
theorem VO {B:Type} {h:List V} {id:Nat} {v:List Nat} (hh:h[id]?=some (SV v)) (hv:v.length=64) (j:Nat) (hj:j<64) (K:V→Option B):
 (AX P 261 (.ref id [] 261) (.int .i64 (j:Int))).bind (fun a=>(AU h 203 a).bind K)=K (.int .u32 (v.getD j 0:Int)):=by
 rw[AMY hj,Option.bind_some,AR5 hh (by omega),Option.bind_some];rfl
theorem atK {B:Type} {h:List V} (j:Nat) (hj:j<64) (K:V→Option B):
 (AX P 261 (.rop 261 O0) (.int .i64 (j:Int))).bind (fun a=>(AU h 203 a).bind K)=K (.int .u32 (BV.getD j 0:Int)):=by
 rw[AIw,ixK hj AK6,Option.bind_some,Eo,Option.bind_some];rfl
theorem trn {B:Type} {h:List V} {x:Nat} (hx:x<4294967296) (m:Nat) (h1:1≤m) (h2:m≤31) (K:V×List V→Option B):
 (Cl 211 (AB h [.int .u32 (x:Int),.int .i64 (m:Int)]) []).bind K=K (.int .u32 (EF x m:Int),[]):=by
 rw[APR hx m h1 h2,Option.bind_some]
theorem AA {A B:Type} {o:Option A} {x:A} (h:o=some x) (K:A→Option B):o.bind K=K x:=by rw[h];rfl
theorem GL {B:Type} {k:IntKind} {a b:Int} (h:a<b) (K:V→Option B):(AL .lss (.int k a) (.int k b)).bind K=K (.bool true):=by
 rw[b_lss,Option.bind_some,decide_eq_true h]
theorem Gn {B:Type} {k:IntKind} {a b:Int} (h:¬a<b) (K:V→Option B):(AL .lss (.int k a) (.int k b)).bind K=K (.bool false):=by
 rw[b_lss,Option.bind_some,decide_eq_false h]
theorem BJ {B:Type} (a b:Option B):V.ite (.bool true) a b=a:=rfl
theorem BK {B:Type} (a b:Option B):V.ite (.bool false) a b=b:=rfl
theorem AE6 {h:List V} {v:List Nat} (hh:h[3]?=some (A8 v)) (hv:v.length=8) (K:V→V→V→V→V→V→Option (V×List V)):
 QZ (.ref 3 [] 247) h K=K (vw (v.getD 0 0)) (vw (v.getD 1 0)) (vw (v.getD 2 0)) (vw (v.getD 4 0)) (vw (v.getD 5 0)) (vw (v.getD 6 0)):=by
 unfold QZ
 exact(at8 hh hv 0 (by omega) _).trans<|(at8 hh hv 1 (by omega) _).trans<|(at8 hh hv 2 (by omega) _).trans<|(at8 hh hv 4 (by omega) _).trans<|(at8 hh hv 5 (by omega) _).trans<|(at8 hh hv 6 (by omega) _)
def chE (e f g h7 k w:Nat):Nat:=ad (ad (ad (ad h7 ((EF e 6 ^^^ EF e 11) ^^^ EF e 25)) (g ^^^ (e&&& (f ^^^ g)))) k) w
def mjA (a b c:Nat):Nat:=ad ((EF a 2 ^^^ EF a 13) ^^^ EF a 22) ((a&&& b)|||(c&&& (a|||b)))
theorem AE7 {h:List V} {v w:List Nat} {t e f g:Nat} (hh:h[3]?=some (A8 v)) (hv:v.length=8) (hw:h[2]?=some (SV w)) (lw:w.length=64) (ht:t<64)
 (be:e<4294967296) (bf:f<4294967296) (bg:g<4294967296) (K:V→Option (V×List V)):
 Qa (.ref 2 [] 261) (.ref 3 [] 247) (.int .i64 (t:Int)) (vw e) (vw f) (vw g) h K=K (vw (chE e f g (v.getD 7 0) (BV.getD t 0) (w.getD t 0))):=by
 have r1:=Ah (n:=6) be;have r2:=Ah (n:=11) be;have r3:=Ah (n:=25) be
 unfold Qa
 refine(at8 hh hv 7 (by omega) _).trans ?_
 refine(trn be 6 (by omega) (by omega) _).trans<|(trn be 11 (by omega) (by omega) _).trans ?_
 refine(AA (u32_xor r1 r2) _).trans ?_
 refine(trn be 25 (by omega) (by omega) _).trans ?_
 refine(AA (u32_xor (Dh r1 r2) r3) _).trans ?_
 refine(AA (Fb _ _) _).trans ?_
 refine(AA (u32_xor bf bg) _).trans ?_
 refine(AA (u32_and be (Dh bf bg)) _).trans ?_
 refine(AA (u32_xor bg (D5 be)) _).trans ?_
 refine(AA (Fb _ _) _).trans ?_
 refine(atK t ht _).trans ?_
 refine(AA (Fb _ _) _).trans ?_
 refine(VO hw lw t ht _).trans ?_
 exact AA (Fb _ _) _
theorem AE8 {h:List V} {a b c:Nat} (ba:a<4294967296) (bb:b<4294967296) (bc:c<4294967296) (K:V→Option (V×List V)):
 Qb (vw a) (vw b) (vw c) h K=K (vw (mjA a b c)):=by
 have r1:=Ah (n:=2) ba;have r2:=Ah (n:=13) ba;have r3:=Ah (n:=22) ba
 unfold Qb
 refine(trn ba 2 (by omega) (by omega) _).trans<|(trn ba 13 (by omega) (by omega) _).trans ?_
 refine(AA (u32_xor r1 r2) _).trans ?_
 refine(trn ba 22 (by omega) (by omega) _).trans ?_
 refine(AA (u32_xor (Dh r1 r2) r3) _).trans ?_
 refine(AA (u32_and ba bb) _).trans ?_
 refine(AA (u32_or ba bb) _).trans ?_
 refine(AA (u32_and bc (AE5 ba bb)) _).trans ?_
 refine(AA (u32_or (D5 ba) (D5 bc)) _).trans ?_
 exact AA (Fb _ _) _
theorem AR8 (z0 z1 z2 z3 z4 z5 z6 z7:Nat):bld P 247 [(0,.int .u32 (z0:Int)),(1,.int .u32 (z1:Int)),(2,.int .u32 (z2:Int)),(3,.int .u32 (z3:Int)),(4,.int .u32 (z4:Int)),(5,.int .u32 (z5:Int)),(6,.int .u32 (z6:Int)),(7,.int .u32 (z7:Int))]=some (A8 [z0,z1,z2,z3,z4,z5,z6,z7]):=by
 simp[bld,NS,ZP,Bv,Bo,AKz,Bq,VJ,cp,AEz,A8,Kw,vw,List.replicate]
theorem AE9 {h:List V} {v:List Nat} {a b c e f g x y:Nat} (hh:h[3]?=some (A8 v)) (hv:v.length=8) (K:List V→Option (V×List V)):
 Qc (.ref 3 [] 247) (vw a) (vw b) (vw c) (vw e) (vw f) (vw g) (vw x) (vw y) h K=K (h.set 3 (A8 [ad x y,a,b,c,ad (v.getD 3 0) x,e,f,g])):=by
 unfold Qc
 refine(AA (Fb _ _) _).trans ?_
 refine(at8 hh hv 3 (by omega) _).trans ?_
 refine(AA (Fb _ _) _).trans ?_
 refine(AA (AR8 _ _ _ _ _ _ _ _) _).trans ?_
 exact AA (Ep hh (by simp[Bo,NS,A8]) (by simp only[A8,V.under];exact FV _ _)) _
theorem AFA (k w v:List Nat) (t:Nat):rnd k w t v=[ad (chE (v.getD 4 0) (v.getD 5 0) (v.getD 6 0) (v.getD 7 0) (k.getD t 0) (w.getD t 0)) (mjA (v.getD 0 0) (v.getD 1 0) (v.getD 2 0)),v.getD 0 0,v.getD 1 0,v.getD 2 0,
 ad (v.getD 3 0) (chE (v.getD 4 0) (v.getD 5 0) (v.getD 6 0) (v.getD 7 0) (k.getD t 0) (w.getD t 0)),v.getD 4 0,v.getD 5 0,v.getD 6 0]:=rfl
theorem AFB (k w:List Nat) (n t:Nat) (v:List Nat):Qr k w (n+1) t v=Qr k w n (t+1) (rnd k w t v):=rfl
theorem AIy (h w:List Nat) (hh:h.length=8) (hw:w.length=64) (bw:B32 w):∀(n t:Nat) (v:List Nat),t+n=64→B32 v→v.length=8→
 OU (.ref 0 [] 247) (.ref 1 [] 247) (.ref 2 [] 261) (.ref 3 [] 247) (.int .i64 (t:Int)) [A8 h,A8 (List.replicate 8 0),SV w,A8 v]=
  some (A8 (MJ (Qr BV w n t v) 8 0 h),[]):=by
 intro n
 induction n with
 |zero=>
  intro t v ht bv hv
  rw[Qg]
  have:¬((t:Int)<64):=by omega
  have l3:AU [A8 h,A8 (List.replicate 8 0),SV w,A8 v] 247 (.ref 3 [] 247)=some (A8 v):=Cj (FZ rfl)
  simp only[QY,XW,b_lss,Option.bind_some,AE0,this,if_false,l3,Qr]
  exact AIx v hv (A8 v) (SV w) (A8 v) 8 0 h rfl hh
 |succ n ih=>
  intro t v ht bv hv
  rw[Qg]
  have hlt:(t:Int)<64:=by omega
  have ht':t<64:=by omega
  rw[QY,GL hlt,BJ,XU]
  rw[AE6 rfl hv,AE7 rfl hv rfl hw ht' (bv.get 4) (bv.get 5) (bv.get 6),AE8 (bv.get 0) (bv.get 1) (bv.get 2),AE9 rfl hv,←AFA]
  simp only[XV,Cf]
  rw[show((t:Int)+1)=((t+1:Nat):Int)by omega,wrap_i64 (by omega) (by omega),AFB]
  have st:[A8 h,A8 (List.replicate 8 0),SV w,A8 v].set 3 (A8 (rnd BV w t v))=[A8 h,A8 (List.replicate 8 0),SV w,A8 (rnd BV w t v)]:=rfl
  rw[st]
  exact ih (t+1) _ (by omega) (ZR bv t).1 (ZR bv t).2
end
section
open Go AM
theorem IW {B:Type} {a b:Nat} (h:b≤a) (ha:a<2^62) (K:V→Option B):(AL .sub (.int .i64 (a:Int)) (.int .i64 (b:Int))).bind K=K (.int .i64 ((a-b:Nat):Int)):=by
 rw[KZ,show(a:Int)-(b:Int)=((a-b:Nat):Int)by omega,wrap_i64 (by omega) (by omega)];rfl
theorem Fe {B:Type} {a b:Nat} (h:a+b<2^62) (K:V→Option B):(AL .add (.int .i64 (a:Int)) (.int .i64 (b:Int))).bind K=K (.int .i64 ((a+b:Nat):Int)):=by
 rw[Cf,show(a:Int)+(b:Int)=((a+b:Nat):Int)by omega,wrap_i64 (by omega) (by omega)];rfl
theorem Xn {B:Type} {a b:Nat} (h:a*b<2^62) (K:V→Option B):(AL .mul (.int .i64 (a:Int)) (.int .i64 (b:Int))).bind K=K (.int .i64 ((a*b:Nat):Int)):=by
 rw[TT,←Int.natCast_mul,wrap_i64 (by omega) (by omega)];rfl
theorem AMb {f:Fl} {t s:TypeId} {xs:List V} {a b:Nat} (k:K P s= .slice t) (h1:a≤b) (h2:b≤xs.length):
 NJ P s (V.weak (.lst t f xs)) (some (.int .i64 (a:Int))) (some (.int .i64 (b:Int))) none=some (.lst t f.cut ((xs.take b).drop a)):=by
 have e1:(0:Int)≤(b:Int)∧b≤xs.length:=⟨by omega,h2⟩
 have e2:(0:Int)≤(a:Int)∧(a:Int)≤(b:Int):=⟨by omega,by omega⟩
 cases f<;>simp[NJ,V.weak,k,Be,e1,e2,Fl.cut,h1,h2]
section
variable {h:List V} {w:List Nat} {t:Nat}
variable (hw:h[2]?=some (SV w)) (lw:w.length=64) (bw:B32 w) (ht:t<64)
include hw lw bw ht
theorem AFC (h16:16≤t) (K:V→Option (V×List V)):
 QV (.ref 2 [] 261) (.int .i64 (t:Int)) h K=K (vw (sg0 (w.getD (t-15) 0))):=by
 have b:=bw.get (t-15)
 unfold QV
 refine(IW (b:=15) (by omega) (by omega) _).trans<|(VO hw lw (t-15) (by omega) _).trans<|(trn b 7 (by omega) (by omega) _).trans ?_
 refine(IW (b:=15) (by omega) (by omega) _).trans<|(VO hw lw (t-15) (by omega) _).trans<|(trn b 18 (by omega) (by omega) _).trans ?_
 refine(AA (u32_xor (Ah b) (Ah b)) _).trans ?_
 refine(IW (b:=15) (by omega) (by omega) _).trans<|(VO hw lw (t-15) (by omega) _).trans ?_
 refine(AA (OY 3 (by omega)) _).trans ?_
 exact AA (u32_xor (Dh (Ah b) (Ah b)) (JI _ b)) _
theorem AFD (h16:16≤t) (K:V→Option (V×List V)):
 QW (.ref 2 [] 261) (.int .i64 (t:Int)) h K=K (vw (sg1 (w.getD (t-2) 0))):=by
 have b:=bw.get (t-2)
 unfold QW
 refine(IW (b:=2) (by omega) (by omega) _).trans<|(VO hw lw (t-2) (by omega) _).trans<|(trn b 17 (by omega) (by omega) _).trans ?_
 refine(IW (b:=2) (by omega) (by omega) _).trans<|(VO hw lw (t-2) (by omega) _).trans<|(trn b 19 (by omega) (by omega) _).trans ?_
 refine(AA (u32_xor (Ah b) (Ah b)) _).trans ?_
 refine(IW (b:=2) (by omega) (by omega) _).trans<|(VO hw lw (t-2) (by omega) _).trans ?_
 refine(AA (OY 10 (by omega)) _).trans ?_
 exact AA (u32_xor (Dh (Ah b) (Ah b)) (JI _ b)) _
theorem AFE (h16:16≤t) (x y:Nat) (K:List V→Option (V×List V)):
 QX (.ref 2 [] 261) (.int .i64 (t:Int)) (vw x) (vw y) h K=K (h.set 2 (SV (w.set t (ad (ad (ad (w.getD (t-16) 0) (w.getD (t-7) 0)) x) y)))):=by
 unfold QX
 refine(IW (b:=16) (by omega) (by omega) _).trans<|(VO hw lw (t-16) (by omega) _).trans ?_
 refine(IW (b:=7) (by omega) (by omega) _).trans<|(VO hw lw (t-7) (by omega) _).trans ?_
 refine(AA (Fb _ _) _).trans ?_
 refine(AA (Fb _ _) _).trans ?_
 refine(AA (Fb _ _) _).trans ?_
 refine(AA (AMY ht) _).trans ?_
 exact AA (APT hw (by omega)) _
end
theorem AB1 (n t:Nat) (w:List Nat):Ji (n+1) t w=Ji n (t+1) (w.set t (ad (ad (ad (w.getD (t-16) 0) (w.getD (t-7) 0)) (sg0 (w.getD (t-15) 0))) (sg1 (w.getD (t-2) 0)))):=rfl
theorem AIz (p:List UInt8) (n t:Nat) (w:List Nat):Jh p (n+1) t w=Jh p n (t+1) (w.set t (wordAt p t)):=rfl
theorem AI0 (h:List Nat) (hh:h.length=8) (bh:B32 h):∀(n t:Nat) (w:List Nat),t+n=64→16≤t→B32 w→w.length=64→
 OT (.ref 0 [] 247) (.ref 1 [] 247) (.ref 2 [] 261) (.int .i64 (t:Int)) [A8 h,A8 (List.replicate 8 0),SV w]=
  some (A8 (MJ (Qr BV (Ji n t w) 64 0 h) 8 0 h),[]):=by
 intro n
 induction n with
 |zero=>
  intro t w ht h16 bw lw
  rw[Qh,VG,Gn (by omega),BK,XT]
  have z:zero P 247=A8 (List.replicate 8 0):=by rw[ZP];rfl
  have l0:AU [A8 h,A8 (List.replicate 8 0),SV w] 247 (.ref 0 [] 247)=some (A8 h):=Cj (FZ rfl)
  rw[l0,z]
  refine(AA (Ep (h:=[A8 h,A8 (List.replicate 8 0),SV w]++[A8 (List.replicate 8 0)]) rfl (by simp[Bo,NS,A8]) (by simp only[A8,V.under];exact FV _ _)) _).trans ?_
  exact AIy h w hh lw bw 64 0 h rfl bh hh
 |succ n ih=>
  intro t w ht h16 bw lw
  rw[Qh,VG,GL (by omega),BJ,AFC rfl lw bw (by omega) h16,AFD rfl lw bw (by omega) h16,AFE rfl lw bw (by omega) h16,XR,AB1]
  refine(Fe (b:=1) (by omega) _).trans ?_
  exact ih (t+1) _ (by omega) (by omega) (bw.set t (Tc _ _)) (by simp[lw])
theorem AI1 (h:List Nat) (hh:h.length=8) (bh:B32 h) (p:List UInt8) (hp:p.length=64) (f:Fl):∀(n t:Nat) (w:List Nat),t+n=16→B32 w→w.length=64→
 OQ (.lst 5 f (bytesOf p)) (.ref 0 [] 247) (.ref 1 [] 247) (.ref 2 [] 261) (.int .i64 (t:Int)) [A8 h,A8 (List.replicate 8 0),SV w]=
  some (A8 (MJ (Qr BV (Ji 48 16 (Jh p n t w)) 64 0 h) 8 0 h),[]):=by
 intro n
 induction n with
 |zero=>
  intro t w ht bw lw
  rw[Qi,VE,Gn (by omega),BK,ABq]
  exact AI0 h hh bh 48 16 w rfl (by omega) bw lw
 |succ n ih=>
  intro t w ht bw lw
  rw[Qi,VE,GL (by omega),BJ,ABn,ABo]
  refine(Xn (a:=4) (by omega) _).trans<|(Xn (a:=4) (by omega) _).trans<|(Fe (b:=4) (by omega) _).trans ?_
  refine(AA (AMb (f:=f) (t:=5) (xs:=bytesOf p) D9 (a:=4*t) (b:=4*t+4) (by omega) (by simp[bytesOf];omega)) _).trans ?_
  rw[AIu (by omega) (by omega) rfl lw,ABp,AIz]
  refine(Fe (b:=1) (by omega) _).trans ?_
  exact ih (t+1) _ (by omega) (bw.set t (MH p t)) (by simp[lw])
theorem AI2 {h:List Nat} (hh:h.length=8) (bh:B32 h) {p:List UInt8} (hp:p.length=64) (f:Fl):
 Cl 195 [A8 h,.lst 5 f (bytesOf p)] []=some (A8 (Td h p),[]):=by
 have tk:(Bo P 247 (A8 h)&&V.under (List.length ([]:List V)) (A8 h))=true:=by
  simp only[A8,V.under,FV,Bo,NS];simp
 rw[AIg,ABk,if_pos tk,ABl,ABm,ZP,AMK]
 have z32:B32 (List.replicate 64 0):=fun x hx=>by rw[List.eq_of_mem_replicate hx];decide
 exact AI1 h hh bh p hp f 16 0 (List.replicate 64 0) rfl z32 rfl
end
section
open Go AM
section
variable {B:Type} {s e u:TypeId} {f:Fl} {xs:List V} {h:List V}
theorem IX:∃g,V.weak (.lst e f xs)= .lst e g xs:=by cases f<;>exact⟨_,rfl⟩
theorem AC6 (hu:P.underlying s=some (.slice u)) (K:V→Option B):(lenV P s (.lst e f xs)).bind K=K (.int .i64 (xs.length:Int)):=by
 simp[lenV,hu]
theorem ZT (hu:P.underlying s=some (.slice u)) (K:V→Option B):(lenV P s (V.weak (.lst e f xs))).bind K=K (.int .i64 (xs.length:Int)):=by
 obtain⟨g,hg⟩:=IX (e:=e) (f:=f) (xs:=xs);rw[hg];exact AC6 hu K
theorem AC7 (hk:K P s= .slice e) {i:Nat} {v:V} (hv:xs[i]?=some v) (K:V→Option B):
 (AX P s (.lst e f xs) (.int .i64 (i:Int))).bind K=K (.rop e v):=by
 have hi:=Ql hv
 have:inside (i:Int) xs.length=true:=by simp[inside,hi]
 simp[AX,hk,this,hv]
theorem AC8 (hk:K P s= .slice e) {i:Nat} {v:V} (hv:xs[i]?=some v) (K:V→Option B):
 (AX P s (V.weak (.lst e f xs)) (.int .i64 (i:Int))).bind K=K (.rop e v):=by
 obtain⟨g,hg⟩:=IX (e:=e) (f:=f) (xs:=xs);rw[hg];exact AC7 hk hv K
theorem ldR {v:V} (K:V→Option B):(AU h e (.rop e v)).bind K=K v:=by rw[Eo];rfl
theorem AI3 {v:V} (K:V→Option B):(CP h e (.rop e v)).bind K=K v.weak:=by rw[CP,Eo];rfl
theorem AC9 (hk:K P s= .slice e) (hf:f= .own∨f= .nil) {y:V} {ys:List V} (hy:Ac h y=some ys) (hc:AQ ys=true) (ht:GR P e ys=true) (hl:xs.length+ys.length≤2147483648) (hn:Ba P depth e=false) (hne:f= .nil→ys.isEmpty=false:=by first|(intro h;cases h;done)|(intro _;rfl)):
 Dv P s h (.lst e f xs) y=some (.lst e .own (xs++ys)):=by
 rcases hf with rfl|rfl
 ·simp[Dv,hk,hy,hc,ht,hl,Dq,Df,hn]
 ·have:=hne rfl
  cases ys with
  |nil=>cases this
  |cons y0 ys0=>simp[Dv,hk,hy,hc,ht,hl,Dq,Df,hn]<;>exact decide_eq_true (by simpa using hl)
theorem AFF (hk:K P s= .slice e) {v:V} (ht:Bo P e v=true) (hc:v.clean=true) (hn:Ba P depth e=false) (hz:∃z,zero P e=z):
 CU P s 1 [(0,v)]=some (.lst e .own [v]):=by
 simp[CU,hk,Bv,ht,List.replicate,cp,hn,AQ,hc,Df]
end
def bL (f:Fl) (l:List UInt8):V:= .lst 5 f (bytesOf l)
theorem Ag (l:List UInt8):(bytesOf l).length=l.length:=by simp[bytesOf]
theorem GY (a b:List UInt8):bytesOf (a++b)=bytesOf a++bytesOf b:=by simp[bytesOf]
theorem bytesOf_take (n:Nat) (a:List UInt8):(bytesOf a).take n=bytesOf (a.take n):=by simp[bytesOf,List.map_take]
theorem bytesOf_drop (n:Nat) (a:List UInt8):(bytesOf a).drop n=bytesOf (a.drop n):=by simp[bytesOf,List.map_drop]
theorem CS:∀l:List UInt8,AQ (bytesOf l)=true
 |[]=>rfl
 |x::l=>by simp only[bytesOf,List.map_cons,AQ];rw[show List.map _ l=bytesOf l from rfl,CS l];rfl
theorem Oa (x:Int):Bo P 5 (.int .u8 x)=true:=by simp[Bo,K_5,Bq,NQ]
theorem GZ (l:List UInt8):GR P 5 (bytesOf l)=true:=by
 simp[GR,bytesOf,Oa]
theorem Jj {B:Type} {f:Fl} {l:List UInt8} (K':V→Option B):(lenV P 172 (V.weak (bL f l))).bind K'=K' (.int .i64 (l.length:Int)):=by
 rw[bL,ZT JF,Ag]
theorem APU {B:Type} {f:Fl} {l:List UInt8} (K':V→Option B):(lenV P 172 (bL f l)).bind K'=K' (.int .i64 (l.length:Int)):=by
 rw[bL,AC6 JF,Ag]
theorem AMc {f:Fl} {h:List V} {l m:List UInt8} {g:Fl} (hf:f= .own∨f= .nil) (hl:l.length+m.length≤2147483648) (hne:f= .nil→m.isEmpty=false:=by first|(intro h;cases h;done)|(intro _;rfl)):
 Dv P 172 h (bL f l) (bL g m)=some (bL .own (l++m)):=by
 rw[bL,AC9 D9 hf (y:=bL g m) (ys:=bytesOf m) rfl (CS m) (GZ m) (by simpa [Ag]using hl) Xc (fun h=>by have:=hne h;cases m<;>first|(cases this;done)|rfl),bL,GY]
theorem AFG (x:Nat) (hx:x<256):CU P 172 1 [(0,.int .u8 (x:Int))]=some (bL .own [UInt8.ofNat x]):=by
 rw[AFF D9 (Oa _) rfl Xc ⟨_,rfl⟩,bL]
 simp[bytesOf,Nat.mod_eq_of_lt hx]
theorem app1 {B:Type} {f:Fl} {h:List V} {l:List UInt8} (hf:f= .own∨f= .nil) (hl:l.length+1≤2147483648) (x:Nat) (hx:x<256) (K':V→Option B):
 (CU P 172 1 [(0,.int .u8 (x:Int))]).bind (fun y=>(Dv P 172 h (bL f l) y).bind K')=K' (bL .own (l++[UInt8.ofNat x])):=by
 rw[AFG x hx]
 exact AA (AMc hf (by simpa using hl) (fun _=>rfl)) K'
end
section
open Go AM
def part (p:Fl×List UInt8):V:=bL p.1 p.2
def parts (L:List (Fl×List UInt8)):List V:=L.map part
def flat (L:List (Fl×List UInt8)):List UInt8:=(L.map (·.2)).flatten
theorem Ff:∀l:List UInt8,AV (bytesOf l)=bytesOf l
 |[]=>rfl
 |x::l=>by simp only[bytesOf,List.map_cons,AV];rw[show List.map _ l=bytesOf l from rfl,Ff l];rfl
theorem Tj {L:List (Fl×List UInt8)} {i:Nat} (hi:i<L.length):(parts L)[i]?=some (part L[i]):=by
 simp[parts,hi]
theorem JJ (p:Fl×List UInt8):∃g,(part p).weak=bL g p.2:=by
 obtain⟨f,l⟩:=p;exact IX
theorem AFH {s e:TypeId} {id off len a:Nat} {p:List Nat} (k:K P s= .slice e) (h1:a≤len):
 NJ P s (V.weak (.win id p off len e)) (some (.int .i64 (a:Int))) none none=some (.win id p (off+a) (len-a) e):=by
 have e2:(0:Int)≤(a:Int)∧(a:Int)≤(len:Int):=⟨by omega,by omega⟩
 simp[NJ,V.weak,k,Be,e2,h1]
theorem ZU {e:TypeId} {s:TypeId} {off len:Nat} {xs ys:List V} {y:V} (k:K P s= .slice e) (hy:Ac [.row e xs] y=some ys) (hc:AQ ys=true) (ht:GR P e ys=true) (hn:Ba P depth e=false) (hl:ys.length≤len):
 cpy P s [.row e xs] (.win 0 [] off len e) y=some (.int .i64 (ys.length:Int),[.row e (xs.take off++ys++xs.drop (off+ys.length))]):=by
 have m:min ys.length len=ys.length:=by omega
 simp[cpy,FM,k,hy,hc,ht,rd,V.at,V.items,wr,V.upd,Df,hn,m]
theorem J6 (p:Fl×List UInt8) (L:List (Fl×List UInt8)):flat (p::L)=p.2++flat L:=rfl
theorem AI4 (fs:Fl) (L:List (Fl×List UInt8)) (hL:L.length<2147483648) (f:Fl) (N:Nat) (hN:N<2147483648) (h0:0<N):∀(n i:Nat) (done:List UInt8),i+n=L.length→N=done.length+(flat (L.drop i)).length→
 OO (.lst 5 fs []) (.win 0 [] 0 N 5) (.int .i64 (done.length:Int)) (.lst 172 f (parts L)) (.int .i64 (L.length:Int)) (.int .i64 (i:Int)) [.row 5 (bytesOf done++List.replicate (N-done.length) .undef)]=
  some (bL .own (done++flat (L.drop i)),[]):=by
 intro n
 induction n with
 |zero=>
  intro i done hi hn
  have hd:L.drop i=[]:=by simp;omega
  rw[hd]at hn⊢
  simp only[flat,List.map_nil,List.flatten_nil,List.length_nil,Nat.add_zero,List.append_nil]at hn⊢
  subst hn
  rw[QT,QR,Gn (by omega),BK,XQ]
  have c:Ac [V.row 5 (bytesOf done)] (.win 0 [] 0 done.length 5)=some (bytesOf done):=by
   simp[Ac,rd,V.at,V.items,Ag]
   rw[List.take_of_length_le (by simp[Ag])]
  simp[SS,c,CS,Ff,bL,Nat.ble,Nat.blt,Nat.ble_eq]
  exact List.ne_nil_of_length_pos h0
 |succ n ih=>
  intro i done hi hn
  have hlt:i<L.length:=by omega
  rw[QT,QR,GL (by omega),BJ,XL]
  refine(AC7 Qj (Tj hlt) _).trans<|(AI3 _).trans ?_
  obtain⟨g,hg⟩:=JJ L[i]
  rw[hg]
  rw[XM]
  refine(AA (AFH D9 (by omega)) _).trans ?_
  refine(AA (ZU (ys:=[]) D9 (by cases fs<;>rfl) rfl rfl Xc (Nat.zero_le _)) _).trans ?_
  refine(Fe (b:=0) (by simp;omega) _).trans ?_
  simp only[List.length_nil,Nat.add_zero,Nat.zero_add,List.append_nil,List.take_append_drop]
  rw[XO]
  have hd:flat (L.drop i)=L[i].2++flat (L.drop (i+1)):=by rw[List.drop_eq_getElem_cons hlt,J6]
  rw[hd]at hn⊢
  rw[List.length_append]at hn
  refine(AA (AFH D9 (by omega)) _).trans ?_
  refine(AA (ZU (ys:=bytesOf L[i].2) D9 rfl (CS _) (GZ _) Xc (by rw[Ag];omega)) _).trans ?_
  rw[Ag]
  refine(Fe (by omega) _).trans ?_
  rw[XP]
  refine(Fe (b:=1) (by omega) _).trans ?_
  have:=ih (i+1) (done++L[i].2) (by omega) (by simp;omega)
  rw[List.append_assoc,List.length_append]at this
  rw[←this]
  congr 1
  simp[GY,Ag,List.take_append,List.drop_append,List.take_of_length_le,List.drop_eq_nil_of_le]
  omega
theorem AR9 {R:Type} {n:Nat} {h:List V} (hn:n≤2147483648) (k:V→List V→Option R):mnz P 0 210 [.int .i64 (n:Int)] h k=k (.win h.length [] 0 n 5) (h++[.row 5 (List.replicate n .undef)]):=by
 have:(0:Nat)=0∧(0:Int)≤(n:Int)∧(n:Int)≤(Dq:Int):=⟨rfl,by omega,by simp only[Dq];omega⟩
 unfold mnz
 refine(if_pos this).trans ?_
 have key:∀e:TypeId,e=5→k (.win h.length [] 0 (n:Int).toNat e) (h++[.row e (List.replicate (n:Int).toNat .undef)])=k (.win h.length [] 0 n 5) (h++[.row 5 (List.replicate n .undef)]):=by rintro _ rfl;rfl
 exact key _ (by kernel_rfl)
theorem AI5 {s e:TypeId} {id off len b:Nat} {p:List Nat} (k:K P s= .slice e) (h1:b≤len):
 NJ P s (.win id p off len e) none (some (.int .i64 (b:Int))) (some (.int .i64 (b:Int)))=some (.win id p off b e):=by
 have e2:(0:Int)≤(b:Int)∧(b:Int)≤(len:Int):=⟨by omega,by omega⟩
 simp[NJ,V.weak,k,Be,e2,h1]
theorem AI6 (fs:Fl) (L:List (Fl×List UInt8)) (hL:L.length<2147483648) (hL0:0<L.length) (f:Fl) (hN:(flat L).length<2147483648) (h0:0<(flat L).length):∀(n i acc:Nat),i+n=L.length→acc+(flat (L.drop i)).length=(flat L).length→
 OM (.lst 172 f (parts L)) (.lst 5 fs []) (.int .i64 (acc:Int)) (V.weak (.lst 172 f (parts L))) (.int .i64 (L.length:Int)) (.int .i64 (i:Int)) []=
  some (bL .own (flat L),[]):=by
 intro n
 induction n with
 |zero=>
  intro i acc hi hn
  have hd:L.drop i=[]:=by simp;omega
  rw[hd]at hn
  have e0:(flat ([]:List (Fl×List UInt8))).length=0:=rfl
  rw[QU,QO,Gn (by omega),BK,XI]
  have hacc:acc=(flat L).length:=by omega
  subst hacc
  rw[AR9 (by omega)]
  refine(AA (AI5 D9 (Nat.le_refl _)) _).trans ?_
  obtain⟨p,L',rfl⟩:=List.exists_cons_of_length_pos hL0
  rw[XJ]
  refine(AC8 (i:=0) (v:=part p) Qj rfl _).trans<|(AI3 _).trans ?_
  obtain⟨g,hg⟩:=JJ p
  rw[hg]
  refine(AA (ZU (ys:=bytesOf p.2) D9 rfl (CS _) (GZ _) Xc (by rw[Ag,J6,List.length_append];omega)) _).trans ?_
  rw[XK]
  have sl:NJ P 245 (.lst 172 f (parts (p::L'))) (some (.int .i64 1)) none none=some (.lst 172 f.cut (parts L')):=by
   have e1:(1:Int)≤((parts L').length:Int)+1:=by omega
   simp[NJ,Qj,Be,parts,e1]
   constructor
   ·omega
   ·rw[List.take_of_length_le (by simp)]
  refine(AA sl _).trans ?_
  refine(AC6 OW _).trans ?_
  have:=AI4 fs L' (by simp at hL;omega) f.cut (flat (p::L')).length hN h0 L'.length 0 p.2 (by omega) (by rw[J6,List.length_append];rfl)
  simp only[List.drop_zero]at this
  rw[←J6]at this
  refine Eq.trans ?_ this
  simp only[parts,List.length_map,Ag,List.length_nil,List.nil_append,List.take_zero,Nat.zero_add,List.drop_replicate]
  rfl
 |succ n ih=>
  intro i acc hi hn
  have hlt:i<L.length:=by omega
  have hd:flat (L.drop i)=L[i].2++flat (L.drop (i+1)):=by rw[List.drop_eq_getElem_cons hlt,J6]
  rw[hd,List.length_append]at hn
  rw[QU,QO,GL (by omega),BJ,XE]
  refine(AC8 Qj (Tj hlt) _).trans<|(AI3 _).trans ?_
  obtain⟨g,hg⟩:=JJ L[i]
  rw[hg,XF]
  refine Jj _ |>.trans ?_
  refine(AA (KZ _ _ _) _).trans ?_
  rw[wrap_i64 (by omega) (by omega)]
  refine(AA (b_gtr _ _ _) _).trans ?_
  rw[decide_eq_false (by omega),BK,XG]
  refine APU _ |>.trans ?_
  refine(Fe (by omega) _).trans ?_
  rw[XH]
  refine(Fe (b:=1) (by omega) _).trans ?_
  exact ih (i+1) (acc+L[i].2.length) (by omega) (by omega)
theorem AI7 (fs:Fl) (L:List (Fl×List UInt8)) (hL:L.length<2147483648) (f:Fl) (hN:(flat L).length<2147483648) (h0:0<(flat L).length):
 Cl 194 [.lst 172 f (parts L),.lst 5 fs []] []=some (bL .own (flat L),[]):=by
 have hL0:0<L.length:=by
  cases L with
  |nil=>cases h0
  |cons=>simp
 have lp:(parts L).length=L.length:=by simp[parts]
 rw[AIf,ABe,ABf]
 refine(ZT OW _).trans ?_
 rw[lp]
 refine(AA (b_eql _ _ _) _).trans ?_
 rw[decide_eq_false (by omega),BK,ABg]
 refine(ZT OW _).trans ?_
 rw[lp]
 refine(AA (b_eql _ _ _) _).trans ?_
 by_cases h1:L.length=1
 ·rw[decide_eq_true (by omega),BJ,ABh]
  match L,h1 with
  |[p],_=>
   refine(AC7 (i:=0) (v:=part p) Qj rfl _).trans<|(AI3 _).trans ?_
   obtain⟨g,hg⟩:=JJ p
   have e:flat [p]=p.2:=by simp[flat]
   rw[e]at hN h0⊢
   rw[hg]
   have a:=AMc (f:= .nil) (h:=[]) (l:=[]) (m:=p.2) (g:=g) (Or.inr rfl) (by simp;omega) (fun _=>by cases hp:p.2 with|nil=>rw[hp]at h0;simp at h0|cons=>rfl)
   refine(AA a _).trans ?_
   refine(AA (show DR [] (bL .own ([]++p.2))=some (.win 0 [] 0 p.2.length 5,[.row 5 (bytesOf p.2)])by simp[DR,bL,Ag]) _).trans ?_
   have c:Ac [V.row 5 (bytesOf p.2)] (.win 0 [] 0 p.2.length 5)=some (bytesOf p.2):=by
    simp[Ac,rd,V.at,V.items,Ag]
    rw[List.take_of_length_le (by simp[Ag])]
   simp[SS,c,CS,Ff,bL,Nat.ble,Nat.blt,Nat.ble_eq]
   exact List.ne_nil_of_length_pos h0
 ·rw[decide_eq_false (by omega),BK,ABi,ABj]
  refine(ZT JF _).trans ?_
  refine(AA (b_gtr _ _ _) _).trans ?_
  simp only[jn,List.length_nil]
  rw[decide_eq_false (by omega),BK,XD]
  refine(ZT OW _).trans ?_
  rw[lp]
  exact AI6 fs L hL hL0 f hN h0 L.length 0 0 (by omega) (by simp)
end
section
open Go AM
def MK (n:Nat):Nat:=(120-n%64)%64
def lb (n i:Nat):UInt8:=UInt8.ofNat (n/2^(56-8*i)%256)
def Gx (n:Nat):Nat→Nat→List UInt8
 |0,_=>[]
 |k+1,i=>lb n i::Gx n k (i+1)
def AFI (l:List UInt8):List UInt8:=(l++[128])++List.replicate (MK (l.length+1)) 0++Gx (8*l.length) 8 0
def blocks:Nat→List Nat→List UInt8→List Nat
 |0,h,_=>h
 |n+1,h,p=>blocks n (Td h (p.take 64)) (p.drop 64)
def dg (st:List Nat) (i:Nat):UInt8:=UInt8.ofNat (st.getD (i/4) 0/2^(24-8*(i%4))%256)
def Fg (st:List Nat):Nat→Nat→List UInt8→List UInt8
 |0,_,w=>w
 |n+1,i,w=>Fg st n (i+1) (w.set i (dg st i))
def ER:List Nat:=(match TD with|V.agg _ l=>l|_=>[]).map fun v=>match v with|V.int _ n=>n.toNat|_=>0
def APV (l:List UInt8):List Nat:=blocks ((AFI l).length/64) ER (AFI l)
def Xo (l:List UInt8):List UInt8:=Fg (APV l) 32 0 (List.replicate 32 0)
def BO (l:List UInt8):V:= .agg 65 (bytesOf l)
theorem AI8:TD=A8 ER:=by kernel_rfl
theorem AFJ:ER.length=8:=by kernel_rfl
theorem AK8:B32 ER:=by
 have h:ER.all (fun x=>decide (x<4294967296))=true:=by kernel_rfl
 intro x hx
 have:=List.all_eq_true.1 h x hx
 exact of_decide_eq_true this
theorem Ky {h:List Nat} (p:List UInt8) (bh:B32 h) (hh:h.length=8):B32 (Td h p)∧(Td h p).length=8:=AB0 _ _ _ bh hh
theorem Tm (st:List Nat):∀(n i:Nat) (w:List UInt8),(Fg st n i w).length=w.length
 |0,_,_=>rfl
 |n+1,i,w=>by rw[Fg,Tm st n];simp
theorem Ob (l:List UInt8):(Xo l).length=32:=by rw[Xo,Tm];rfl
theorem ADA (l:List UInt8) (i:Nat) (x:UInt8):(bytesOf l).set i (.int .u8 (x.toNat:Int))=bytesOf (l.set i x):=by
 simp[bytesOf,List.map_set]
theorem APW (x:Nat) (hx:x<256):(V.int .u8 (x:Int))= .int .u8 ((UInt8.ofNat x).toNat:Int):=by
 simp[Nat.mod_eq_of_lt hx]
theorem NT (n:Nat):∀l:List UInt8,AZ n (bytesOf l)=true
 |[]=>rfl
 |x::l=>by simp only[bytesOf,List.map_cons,AZ];rw[show List.map _ l=bytesOf l from rfl,NT n l];rfl
theorem Qs (n:Nat):∀l:List UInt8,Du n (bytesOf l)=true
 |[]=>rfl
 |x::l=>by simp only[bytesOf,List.map_cons,Du];rw[show List.map _ l=bytesOf l from rfl,Qs n l];rfl
theorem NU (h:List V):∀l:List UInt8,DC h (bytesOf l)=bytesOf l
 |[]=>rfl
 |x::l=>by simp only[bytesOf,List.map_cons,DC];rw[show List.map _ l=bytesOf l from rfl,NU h l];rfl
theorem NV (h:List V):∀l:List UInt8,AB h (bytesOf l)=bytesOf l
 |[]=>rfl
 |x::l=>by simp only[bytesOf,List.map_cons,AB];rw[show List.map _ l=bytesOf l from rfl,NV h l];rfl
theorem Tn (h:List V):∀l:List Nat,AB h (Kw l)=Kw l
 |[]=>rfl
 |x::l=>by simp only[Kw,List.map_cons,AB];rw[show List.map vw l=Kw l from rfl,Tn h l];rfl
theorem AFK (h:List V) (l:List Nat):V.reify h (A8 l)=A8 l:=by simp only[A8,V.reify,Tn]
theorem Xp (h:List V) (f:Fl) (l:List UInt8):∃g,V.reify h (bL f l)=bL g l:=by
 cases f<;>simp only[bL,V.reify,NV]<;>exact⟨_,rfl⟩
theorem VP (n:Nat) (h:List V) (l:List UInt8):AP n h (BO l)=some (BO l,h.take n):=by
 simp only[AP,BO,V.unmut,NU,V.norm,Ff,V.clean,CS,V.over,Qs,Bool.and_self,if_true]
theorem AI9:zero P 66=BO (List.replicate 32 0):=by rw[AOo];rfl
theorem AB2 (l:List UInt8):Bo P 66 (BO l)=true:=by simp[Bo,AMI,BO]
theorem AB3 (n:Nat) (l:List UInt8):(BO l).under n=true:=by simp only[BO,V.under];exact NT _ _
theorem APX (l:List Nat):Bo P 247 (A8 l)=true:=by simp[Bo,NS,A8]
theorem APY (n:Nat) (l:List Nat):(A8 l).under n=true:=by simp only[A8,V.under];exact FV _ _
theorem ASA {id i:Nat} (hi:i<32):AX P 66 (.ref id [] 66) (.int .i64 (i:Int))=some (.ref id [i] 5):=by
 have:inside (i:Int) 32=true:=by simp[inside];omega
 simp[AX,AMI,this]
theorem ASB {h:List V} {id i x:Nat} {l:List UInt8} (hh:h[id]?=some (BO l)) (hi:i<l.length) (hx:x<256):Gv P h 5 (.ref id [i] 5) (.int .u8 (x:Int))=some (h.set id (BO (l.set i (UInt8.ofNat x)))):=by
 rw[OX hh (MI hi) (Oa _) rfl,APW x hx,ADA];rfl
theorem AMd {h:List V} {st:List Nat} {w:List UInt8} {i:Nat} (hs:h[1]?=some (A8 st)) (hst:st.length=8) (hw:h[2]?=some (BO w)) (lw:w.length=32) (hi:i<32) (K:List V→Option (V×List V)):
 QG (.ref 1 [] 247) (.ref 2 [] 66) (.int .i64 (i:Int)) h K=K (h.set 2 (BO (w.set i (dg st i)))):=by
 unfold QG
 refine(AA (Xd _ _ _ (by omega)) _).trans ?_
 rw[show(i:Int).tdiv 4=((i/4:Nat):Int)by rfl,wrap_i64 (by omega) (by omega)]
 refine(at8 hs hst (i/4) (by omega) _).trans ?_
 refine(AA (Ko _ _ _ (by omega)) _).trans ?_
 rw[show(i:Int).tmod 4=((i%4:Nat):Int)by rfl]
 refine(Xn (a:=8) (by omega) _).trans<|(IW (a:=24) (by omega) (by omega) _).trans ?_
 refine(AA (Ci VI ..) _).trans ?_
 rw[wrap_u64 (by omega) (by omega)]
 refine(AA (OY _ (by omega)) _).trans ?_
 refine(AA (Ci NQ ..) _).trans ?_
 rw[IV]
 refine(AA (ASA hi) _).trans ?_
 exact AA (ASB hw (by omega) (Nat.mod_lt _ (by decide))) _
theorem APZ {st:List Nat} (hst:st.length=8) (z:List UInt8):∀(n i:Nat) (w:List UInt8),i+n=32→w.length=32→
 OG (.ref 0 [] 66) (.ref 1 [] 247) (.ref 2 [] 66) (.int .i64 (i:Int)) [BO z,A8 st,BO w]=some (BO (Fg st n i w),[]):=by
 intro n
 induction n with
 |zero=>
  intro i w hi hw
  rw[QH,QF,Gn (by omega),BK,XC]
  refine(AA (Cj (v:=BO w) (FZ rfl)) _).trans ?_
  refine(AA (Ep (w:=BO z) rfl (AB2 _) (AB3 _ _)) _).trans ?_
  refine(AA (Cj (v:=BO w) (FZ rfl)) _).trans ?_
  exact VP _ _ _
 |succ n ih=>
  intro i w hi hw
  rw[QH,QF,GL (by omega),BJ,XA,AMd rfl hst rfl hw (by omega),XB]
  refine(Fe (b:=1) (by omega) _).trans ?_
  exact ih (i+1) _ (by omega) (by simp[hw])
theorem APa:∀(n:Nat) (f:Fl) (p:List UInt8) (st:List Nat),p.length=64*n→p.length<2147483648→B32 st→st.length=8→
 OE (.ref 0 [] 66) (bL f p) (.ref 1 [] 247) [BO (List.replicate 32 0),A8 st]=some (BO (Fg (blocks n st p) 32 0 (List.replicate 32 0)),[]):=by
 intro n
 induction n with
 |zero=>
  intro f p st hp hlt bs hst
  rw[QI,QE]
  refine Jj _ |>.trans ?_
  refine(AA (b_gtr _ _ _) _).trans ?_
  rw[decide_eq_false (by omega),BK,Wy,W9,AI9]
  exact APZ hst _ 32 0 _ rfl rfl
 |succ n ih=>
  intro f p st hp hlt bs hst
  rw[QI,QE]
  refine Jj _ |>.trans ?_
  refine(AA (b_gtr _ _ _) _).trans ?_
  rw[decide_eq_true (by omega),BJ,Wv]
  refine(AA (Cj (v:=A8 st) (FZ rfl)) _).trans ?_
  have sl:NJ P 172 (V.weak (bL f p)) none (some (.int .i64 64)) none=some (bL f.cut (p.take 64)):=by
   have:=AMb (f:=f) (t:=5) (xs:=bytesOf p) D9 (a:=0) (b:=64) (by omega) (by rw[Ag];omega)
   rw[List.drop_zero,bytesOf_take]at this
   rw[bL,bL,←this]
   obtain⟨g,hg⟩:=IX (e:=5) (f:=f) (xs:=bytesOf p)
   rw[hg]
   have e1:(64:Int)≤p.length:=by omega
   simp[NJ,D9,Be,Ag,e1]
  refine(AA sl _).trans ?_
  obtain⟨g,hg⟩:=Xp [BO (List.replicate 32 0),A8 st] f.cut (p.take 64)
  have e:AB [BO (List.replicate 32 0),A8 st] [A8 st,bL f.cut (p.take 64)]=[A8 st,bL g (p.take 64)]:=by
   simp only[AB,AFK,hg]
  rw[e]
  refine(AA (AI2 hst bs (by rw[List.length_take];omega) g) _).trans ?_
  refine(AA (Ep (w:=A8 st) rfl (APX _) (APY _ _)) _).trans ?_
  rw[Wx]
  have sl2:NJ P 172 (bL f p) (some (.int .i64 64)) none none=some (bL f.cut (p.drop 64)):=by
   have e1:(64:Int)≤p.length:=by omega
   simp[NJ,bL,D9,Be,Ag,e1,bytesOf_drop]
   rw[List.take_of_length_le (by rw[Ag];omega),bytesOf_drop]
  refine(AA sl2 _).trans ?_
  exact ih f.cut (p.drop 64) (Td st (p.take 64)) (by rw[List.length_drop];omega) (by rw[List.length_drop];omega) (Ky _ bs hst).1 (Ky _ bs hst).2
theorem APb (N:Nat) (hN:N<2147483648):∀(n i:Nat) (p:List UInt8),i+n=8→(p.length+n)%64=0→p.length<2147483000→
 OD (.ref 0 [] 66) (bL .own p) (.int .u64 ((8*N:Nat):Int)) (.int .i64 (i:Int)) [BO (List.replicate 32 0)]=
  some (BO (Fg (blocks ((p++Gx (8*N) n i).length/64) ER (p++Gx (8*N) n i)) 32 0 (List.replicate 32 0)),[]):=by
 intro n
 induction n with
 |zero=>
  intro i p hi hp hl
  rw[QJ,VB,Gn (by omega),BK,Wu,AI8]
  refine(AA Eo _).trans ?_
  refine(AA (Ep (w:=zero P 247) rfl (APX _) (APY _ _)) _).trans ?_
  simp only[Gx,List.append_nil]
  exact APa (p.length/64) .own p ER (by omega) (by omega) AK8 AFJ
 |succ n ih=>
  intro i p hi hp hl
  rw[QJ,VB,GL (by omega),BJ,ABN,ABO]
  refine(Xn (a:=8) (by omega) _).trans<|(IW (a:=56) (by omega) (by omega) _).trans ?_
  refine(AA (Ci VI ..) _).trans ?_
  rw[wrap_u64 (by omega) (by omega)]
  have hs:AL .shr (.int .u64 ((8*N:Nat):Int)) (.int .u64 ((56-8*i:Nat):Int))=some (.int .u64 ((8*N/2^(56-8*i):Nat):Int)):=by
   rw[Xe _ _ _ _ (by omega)]
   have:min (((56-8*i:Nat):Int)).toNat (IntKind.u64).bits=56-8*i:=by simp[IntKind.bits];omega
   rw[this,Qq]
  refine(AA hs _).trans ?_
  refine(AA (Ci NQ ..) _).trans ?_
  rw[IV]
  refine(app1 (Or.inl rfl) (by omega) _ (Nat.mod_lt _ (by decide)) _).trans ?_
  rw[Ws]
  refine(Fe (b:=1) (by omega) _).trans ?_
  have:=ih (i+1) (p++[lb (8*N) i]) (by omega) (by simp;omega) (by simp;omega)
  rw[List.append_assoc,List.singleton_append]at this
  exact this
theorem APc (N:Nat) (hN:N<2147483648):∀(n:Nat) (p:List UInt8),MK p.length=n→p.length+n<2147482000→
 OC (.ref 0 [] 66) (bL .own p) (.int .u64 ((8*N:Nat):Int)) [BO (List.replicate 32 0)]=
  some (BO (Fg (blocks ((p++List.replicate n 0++Gx (8*N) 8 0).length/64) ER (p++List.replicate n 0++Gx (8*N) 8 0)) 32 0 (List.replicate 32 0)),[]):=by
 intro n
 induction n with
 |zero=>
  intro p hp hl
  rw[QK,VA]
  refine Jj _ |>.trans ?_
  refine(AA (Ko _ _ _ (by omega)) _).trans ?_
  rw[show(p.length:Int).tmod 64=((p.length%64:Nat):Int)by rfl]
  refine(AA (b_neq _ _ _) _).trans ?_
  simp only[MK]at hp
  rw[decide_eq_false (by omega),BK,ABM,List.replicate_zero,List.append_nil]
  exact APb N hN 8 0 p rfl (by omega) (by omega)
 |succ n ih=>
  intro p hp hl
  rw[QK,VA]
  refine Jj _ |>.trans ?_
  refine(AA (Ko _ _ _ (by omega)) _).trans ?_
  rw[show(p.length:Int).tmod 64=((p.length%64:Nat):Int)by rfl]
  refine(AA (b_neq _ _ _) _).trans ?_
  simp only[MK]at hp
  rw[decide_eq_true (by omega),BJ,ABL]
  refine(app1 (Or.inl rfl) (by omega) 0 (by omega) _).trans ?_
  have:=ih (p++[0]) (by simp only[MK,List.length_append,List.length_cons,List.length_nil];omega) (by simp;omega)
  rw[List.append_assoc p [0],List.singleton_append]at this
  exact this
theorem ZV (h:List V) (p:Fl×List UInt8):∃g,V.reify h (part p)=part (g,p.2):=Xp h p.1 p.2
theorem Kz (h:List V):∀L:List (Fl×List UInt8),∃L',AB h (parts L)=parts L'∧flat L'=flat L∧L'.length=L.length
 |[]=>⟨[],rfl,rfl,rfl⟩
 |p::L=>by
  obtain⟨L',e1,e2,e3⟩:=Kz h L
  obtain⟨g,hg⟩:=ZV h p
  refine⟨(g,p.2)::L',?_,?_,by simp[e3]⟩
  ·simp only[parts,List.map_cons,AB,hg];exact congrArg _ e1
  ·rw[J6,J6,e2]
theorem NW (h:List V) (f:Fl) (L:List (Fl×List UInt8)):∃f' L',V.reify h (.lst 172 f (parts L))= .lst 172 f' (parts L')∧flat L'=flat L∧L'.length=L.length:=by
 obtain⟨L',e1,e2,e3⟩:=Kz h L
 cases f
 case lent=>exact⟨.lent,L',by simp only[V.reify,e1],e2,e3⟩
 all_goals exact⟨.sh,L,rfl,rfl,rfl⟩
theorem Xq (L:List (Fl×List UInt8)) (hL:L.length<2147483648) (f:Fl) (hN:(flat L).length<2147480000) (h0:0<(flat L).length):
 Cl 176 [.lst 172 f (parts L)] []=some (BO (Xo (flat L)),[]):=by
 obtain⟨f',L',e1,e2,e3⟩:=NW [BO (List.replicate 32 0)] f L
 have er:AB [BO (List.replicate 32 0)] [.lst 172 f (parts L),.lst 5 .nil []]=[.lst 172 f' (parts L'),.lst 5 .sh []]:=by
  simp only[AB,e1];rfl
 rw[AIS,ABG,ABH,AI9]
 simp only[List.nil_append]
 rw[er]
 refine(AA (AI7 .sh L' (by omega) f' (by rw[e2];omega) (by rw[e2];exact h0)) _).trans ?_
 rw[e2,ABJ]
 refine Jj _ |>.trans ?_
 refine(AA (Ci En ..) _).trans ?_
 rw[wrap_u64 (by omega) (by omega)]
 refine(AA (TT _ _ _) _).trans ?_
 rw[wrap_u64 (by omega) (by omega),show((flat L).length:Int)*8=((8*(flat L).length:Nat):Int)by omega,ABK]
 refine(app1 (Or.inl rfl) (by omega) 128 (by omega) _).trans ?_
 have z:MK ((flat L).length+1)<64:=Nat.mod_lt _ (by decide)
 exact APc (flat L).length (by omega) (MK ((flat L).length+1)) (flat L++[128]) (by simp) (by simp;omega)
end
section
open Go AM
theorem VQ {a b i:Nat} (h:b<2^i):a*2^i|||b=a*2^i+b:=by
 have:=Nat.shiftLeft_add_eq_or_of_lt h a
 rw[Nat.shiftLeft_eq]at this;exact this.symm
theorem AJA {x n:Nat} (hx:x<4294967296) (h1:1≤n) (h2:n≤31):EF x n=x/2^n+x%2^n*2^(32-n):=by
 have e:(4294967296:Nat)=2^n*2^(32-n):=by rw[←Nat.pow_add,show n+(32-n)=32 by omega]
 have hd:x/2^n<2^(32-n):=by
  rw[Nat.div_lt_iff_lt_mul (Nat.pow_pos (by decide)),Nat.mul_comm,←e];exact hx
 unfold EF
 rw[show x*2^(32-n)%4294967296=x%2^n*2^(32-n)by rw[e,Nat.mul_mod_mul_right],VQ hd,Nat.add_comm]
theorem AJB {a b c d:Nat} (ha:a<256) (hb:b<256) (hc:c<256) (hd:d<256):
 ((a*2^24%4294967296|||b*2^16%4294967296)|||c*2^8%4294967296)|||d=a*16777216+b*65536+c*256+d:=by
 have e1:a*2^24%4294967296=a*2^24:=Nat.mod_eq_of_lt (by omega)
 have e2:b*2^16%4294967296=b*2^16:=Nat.mod_eq_of_lt (by omega)
 have e3:c*2^8%4294967296=c*2^8:=Nat.mod_eq_of_lt (by omega)
 rw[e1,e2,e3,VQ (by omega),show a*2^24+b*2^16=(a*256+b)*2^16 by omega,VQ (by omega),show(a*256+b)*2^16+c*2^8=(a*65536+b*256+c)*2^8 by omega,VQ (by omega)]
theorem APd {e f g:Nat} (he:e<4294967296) (hf:f<4294967296) (hg:g<4294967296):(e&&& f) ^^^ ((4294967295-e)&&& g)=g ^^^ (e&&& (f ^^^ g)):=by
 have hb:∀i,(4294967295-e).testBit i=(decide (i<32)&& !e.testBit i):=fun i=>by
  rw[←Nat.testBit_two_pow_sub_succ (n:=32) he i,show 4294967295-e=2^32-(e+1)by omega]
 apply Nat.eq_of_testBit_eq
 intro i
 simp only[Nat.testBit_xor,Nat.testBit_and,hb]
 by_cases hi:i<32
 ·simp only[hi,decide_true,Bool.true_and]
  cases e.testBit i<;>cases f.testBit i<;>cases g.testBit i<;>rfl
 ·have:g.testBit i=false:=Nat.testBit_lt_two_pow (Nat.lt_of_lt_of_le hg (Nat.pow_le_pow_right (n:=2) (i:=32) (by decide) (by omega)))
  have:f.testBit i=false:=Nat.testBit_lt_two_pow (Nat.lt_of_lt_of_le hf (Nat.pow_le_pow_right (n:=2) (i:=32) (by decide) (by omega)))
  simp[*]
theorem APe (a b c:Nat):((a&&& b) ^^^ (a&&& c)) ^^^ (b&&& c)=(a&&& b)|||(c&&& (a|||b)):=by
 apply Nat.eq_of_testBit_eq
 intro i
 simp only[Nat.testBit_xor,Nat.testBit_and,Nat.testBit_or]
 cases a.testBit i<;>cases b.testBit i<;>cases c.testBit i<;>rfl
theorem ad4 (a b c d:Nat):ad (ad (ad a b) c) d=(a+b+c+d)%4294967296:=by simp only[ad];omega
theorem ad5 (a b c d e:Nat):ad (ad (ad (ad a b) c) d) e=(a+b+c+d+e)%4294967296:=by simp only[ad];omega
theorem ASC (a b:Nat):ad (a%4294967296) b=(a+b)%4294967296:=by simp only[ad];omega
theorem ASD (a b:Nat):ad b (a%4294967296)=(b+a)%4294967296:=by simp only[ad];omega
def fv (w:List Nat) (t:Nat):Nat:=ad (ad (ad (w.getD (t-16) 0) (w.getD (t-7) 0)) (sg0 (w.getD (t-15) 0))) (sg1 (w.getD (t-2) 0))
def Xr (p:List UInt8):Nat→Nat→List Nat→List Nat
 |0,_,w=>w
 |n+1,t,w=>Xr p n (t+1) (w++[wordAt p t])
def Tq:Nat→Nat→List Nat→List Nat
 |0,_,w=>w
 |n+1,t,w=>Tq n (t+1) (w++[fv w t])
theorem Jk {l:List Nat} {t x:Nat} (ht:t<l.length):(l.set t x).take (t+1)=l.take t++[x]:=by
 rw[List.take_add_one]
 simp[ht,List.take_set_of_le]
theorem Xt (p:List UInt8):∀(n t:Nat) (w:List Nat),t+n≤w.length→Xr p n t (w.take t)=(Jh p n t w).take (t+n)
 |0,_,_,_=>rfl
 |n+1,t,w,h=>by
  rw[Xr,Jh,←Jk (by omega),Xt p n (t+1) (w.set t (wordAt p t)) (by simp;omega),show t+1+n=t+(n+1)by omega]
theorem getD_take {w:List Nat} {i t:Nat} (h:i<t):(w.take t).getD i 0=w.getD i 0:=by
 simp[List.getD_eq_getElem?_getD,List.getElem?_take,h]
theorem Xu:∀(n t:Nat) (w:List Nat),16≤t→t+n≤w.length→Tq n t (w.take t)=(Ji n t w).take (t+n)
 |0,_,_,_,_=>rfl
 |n+1,t,w,h16,h=>by
  have e:fv (w.take t) t=fv w t:=by simp only[fv];rw[getD_take (by omega),getD_take (by omega),getD_take (by omega),getD_take (by omega)]
  rw[Tq,AB1,e,←Jk (by omega)]
  exact(Xu n (t+1) (w.set t (fv w t)) (by omega) (by simp;omega)).trans (by rw[show t+1+n=t+(n+1)by omega];rfl)
theorem AMe (p:List UInt8):Tq 48 16 (Xr p 16 0 [])=Ji 48 16 (Jh p 16 0 (List.replicate 64 0)):=by
 have z32:B32 (List.replicate 64 0):=fun x hx=>by rw[List.eq_of_mem_replicate hx];decide
 have a:=Xj p 16 0 (List.replicate 64 0) z32 (by simp)
 have b:=Xk 48 16 _ a.1 a.2
 have h1:=Xt p 16 0 (List.replicate 64 0) (by simp)
 rw[List.take_zero]at h1
 rw[h1,Xu 48 16 _ (by omega) (by omega),List.take_of_length_le (by omega)]
end
section
open Go AM
def uw (n:Nat):V:= .int .u64 (n:Int)
def Qu (l:List Nat):List V:=l.map uw
def uL (f:Fl) (l:List Nat):V:= .lst 132 f (Qu l)
theorem Fh {B:Type} {a b:Nat} (h:a+b<18446744073709551616) (K:V→Option B):(AL .add (.int .u64 (a:Int)) (.int .u64 (b:Int))).bind K=K (.int .u64 ((a+b:Nat):Int)):=by
 rw[Cf,show(a:Int)+(b:Int)=((a+b:Nat):Int)by omega,wrap_u64 (by omega) (by omega)];rfl
theorem APf {B:Type} {a b:Nat} (h:b≤a) (ha:a<18446744073709551616) (K:V→Option B):(AL .sub (.int .u64 (a:Int)) (.int .u64 (b:Int))).bind K=K (.int .u64 ((a-b:Nat):Int)):=by
 rw[KZ,show(a:Int)-(b:Int)=((a-b:Nat):Int)by omega,wrap_u64 (by omega) (by omega)];rfl
theorem Xv {B:Type} {a b:Nat} (h:a*b<18446744073709551616) (K:V→Option B):(AL .mul (.int .u64 (a:Int)) (.int .u64 (b:Int))).bind K=K (.int .u64 ((a*b:Nat):Int)):=by
 rw[TT,←Int.natCast_mul,wrap_u64 (by omega) (by omega)];rfl
theorem Qv {B:Type} {a b:Nat} (hb:0<b) (h:a<18446744073709551616) (K:V→Option B):(AL .quo (.int .u64 (a:Int)) (.int .u64 (b:Int))).bind K=K (.int .u64 ((a/b:Nat):Int)):=by
 have:a/b≤a:=Nat.div_le_self _ _
 rw[Xd _ _ _ (by omega),show(a:Int).tdiv b=((a/b:Nat):Int)by rfl]
 generalize a/b=c at*
 rw[wrap_u64 (by omega) (by omega)];rfl
theorem Tt {B:Type} {a b:Nat} (hb:0<b) (K:V→Option B):(AL .rem (.int .u64 (a:Int)) (.int .u64 (b:Int))).bind K=K (.int .u64 ((a%b:Nat):Int)):=by
 rw[Ko _ _ _ (by omega),show(a:Int).tmod b=((a%b:Nat):Int)by rfl];rfl
theorem ASE {B:Type} {k:IntKind} {a b:Int} (h:a=b) (K:V→Option B):(AL .eql (.int k a) (.int k b)).bind K=K (.bool true):=by
 rw[b_eql,Option.bind_some,decide_eq_true h]
theorem ASF {B:Type} {k:IntKind} {a b:Int} (h:¬a=b) (K:V→Option B):(AL .eql (.int k a) (.int k b)).bind K=K (.bool false):=by
 rw[b_eql,Option.bind_some,decide_eq_false h]
theorem APg {B:Type} {k:IntKind} {a b:Int} (h:a≠b) (K:V→Option B):(AL .neq (.int k a) (.int k b)).bind K=K (.bool true):=by
 rw[b_neq,Option.bind_some,decide_eq_true h]
theorem APh {B:Type} {k:IntKind} {a b:Int} (h:¬a≠b) (K:V→Option B):(AL .neq (.int k a) (.int k b)).bind K=K (.bool false):=by
 rw[b_neq,Option.bind_some,decide_eq_false h]
theorem AMf {B:Type} {k:IntKind} {a b:Int} (h:b≤a) (K:V→Option B):(AL .geq (.int k a) (.int k b)).bind K=K (.bool true):=by
 rw[b_geq,Option.bind_some,decide_eq_true h]
theorem AMg {B:Type} {k:IntKind} {a b:Int} (h:¬b≤a) (K:V→Option B):(AL .geq (.int k a) (.int k b)).bind K=K (.bool false):=by
 rw[b_geq,Option.bind_some,decide_eq_false h]
theorem VS {l:List Nat} {i:Nat} (hi:i<l.length):(Qu l)[i]?=some (uw (l.getD i 0)):=by
 simp[Qu,List.getElem?_map,List.getElem?_eq_getElem hi]
theorem Oc (l:List Nat):(Qu l).length=l.length:=by simp[Qu]
theorem AJC (a b:List Nat):Qu (a++b)=Qu a++Qu b:=by simp[Qu]
theorem Tv:∀l:List Nat,AQ (Qu l)=true
 |[]=>rfl
 |x::l=>by simp only[Qu,List.map_cons,AQ];rw[show List.map uw l=Qu l from rfl,Tv l];rfl
theorem Tz (l:List Nat):GR P 132 (Qu l)=true:=by
 simp[GR,Qu,Bo,AEv,Bq,En,uw]
theorem APi (x:Nat):Bo P 132 (uw x)=true:=by simp[Bo,AEv,Bq,En,uw]
theorem SX {B:Type} {h:List V} {f:Fl} {l:List Nat} {i:Nat} (hi:i<l.length) (K:V→Option B):
 (AX P 231 (V.weak (uL f l)) (.int .i64 (i:Int))).bind (fun a=>(AU h 132 a).bind K)=K (.int .u64 (l.getD i 0:Int)):=by
 refine(AC8 NR (VS hi) _).trans ?_
 exact ldR _
theorem AFL (v:V) (f:Fl) (l:List Nat) (hv:v=uL f l):V.weak (V.weak v)=V.weak v:=by subst hv;cases f<;>rfl
theorem AK9 {B:Type} {f:Fl} {h:List V} {l:List Nat} (hf:f= .own∨f= .nil) (hl:l.length+1≤2147483648) (x:Nat) (K':V→Option B):
 (CU P 231 1 [(0,.int .u64 (x:Int))]).bind (fun y=>(Dv P 231 h (uL f l) y).bind K')=K' (uL .own (l++[x])):=by
 refine(AA (AFF NR (APi x) rfl MC ⟨_,rfl⟩) _).trans ?_
 refine(AA (AC9 NR hf (y:=V.lst 132 .own [.int .u64 x]) rfl rfl (Tz [x]) (by rw[Oc];exact hl) MC) _).trans ?_
 rw[uL,AJC];rfl
theorem AMh (m:Nat) (hm:m≤63):∀(n i x:Nat),i+n=m→x=2^i→
 OH (.int .i64 (m:Int)) (.int .u64 (x:Int)) (.int .i64 (i:Int))=some (.int .u64 ((2^m:Nat):Int),[]):=by
 intro n
 induction n with
 |zero=>
  intro i x hi hx
  rw[QL,VD,Gn (by omega),BK,ABW,Kv]
  subst hx;rw[show i=m by omega];rfl
 |succ n ih=>
  intro i x hi hx
  rw[QL,VD,GL (by omega),BJ,ABU]
  have hp:2*x=2^(i+1):=by rw[hx,Nat.pow_succ,Nat.mul_comm]
  have:2^(i+1)≤2^63:=Nat.pow_le_pow_right (by decide) (by omega)
  refine(Xv (a:=2) (by rw[hp];omega) _).trans ?_
  rw[ABV]
  refine(Fe (b:=1) (by omega) _).trans ?_
  exact ih (i+1) (2*x) (by omega) hp
theorem AMi {m:Nat} (hm:m≤63):Cl 179 [.int .i64 (m:Int)] []=some (.int .u64 ((2^m:Nat):Int),[]):=by
 rw[AIV,ABR,ABS,ABT]
 exact AMh m hm m 0 1 (by omega) rfl
theorem AB4 {B:Type} {h:List V} {m:Nat} (hm:m≤63) (K:V×List V→Option B):(Cl 179 (AB h [.int .i64 (m:Int)]) []).bind K=K (.int .u64 ((2^m:Nat):Int),[]):=
 AA (AMi hm) K
theorem AJD {B:Type} {h:List V} {m:Nat} (K:V×List V→Option B):(Cl 181 (AB h [.int .u64 (m:Int)]) []).bind K=K (.int .u64 ((m%4294967296:Nat):Int),[]):=by
 refine AA ?_ K
 show Cl 181 [.int .u64 (m:Int)] []=_
 rw[AIY,ABY,ABZ]
 exact Tt (b:=4294967296) (by decide) _
theorem AFM {x n:Nat} (hx:x<4294967296) (h1:1≤n) (h2:n≤31):Cl 182 [.int .u64 (x:Int),.int .i64 (n:Int)] []=some (.int .u64 (EF x n:Int),[]):=by
 rw[AIZ,ABa,ABb]
 have p0:0<2^n:=Nat.pow_pos (by decide)
 have e:(4294967296:Nat)=2^n*2^(32-n):=by rw[←Nat.pow_add,show n+(32-n)=32 by omega]
 have hr:=Ah (n:=n) hx
 rw[AJA hx h1 h2]at hr⊢
 refine(AB4 (by omega) _).trans<|(Qv p0 (by omega) _).trans<|(AB4 (by omega) _).trans<|(Tt p0 _).trans ?_
 have hr':x/2^n+x%2^n*2^(32-n)<18446744073709551616:=Nat.lt_trans hr (by decide)
 refine(IW (a:=32) (by omega) (by omega) _).trans<|(AB4 (by omega) _).trans<|(Xv (Nat.lt_of_le_of_lt (Nat.le_add_left _ _) hr') _).trans<|(Fh hr' _).trans ?_
 rfl
theorem Gp {B:Type} {h:List V} {x:Nat} (hx:x<4294967296) (n:Nat) (h1:1≤n) (h2:n≤31) (K:V×List V→Option B):
 (Cl 182 (AB h [.int .u64 (x:Int),.int .i64 (n:Int)]) []).bind K=K (.int .u64 (EF x n:Int),[]):=AA (AFM hx h1 h2) K
theorem ADB:Cl 180 [] []=some (uL .sh BV,[]):=by
 rw[AIX,ABX]
 kernel_rfl
end
section
open Go AM
theorem ZW {a:Nat} (h:a<4294967296):a<18446744073709551616:=Nat.lt_trans h (by decide)
theorem IY {B:Type} {a b:Nat} (ha:a<4294967296) (hb:b<4294967296) (K:V→Option B):(AL .xor (.int .u64 (a:Int)) (.int .u64 (b:Int))).bind K=K (.int .u64 ((a ^^^ b:Nat):Int)):=
 AA (u64_xor (ZW ha) (ZW hb)) K
theorem Xw {B:Type} {a b:Nat} (ha:a<4294967296) (hb:b<4294967296) (K:V→Option B):(AL .and (.int .u64 (a:Int)) (.int .u64 (b:Int))).bind K=K (.int .u64 ((a&&& b:Nat):Int)):=
 AA (u64_and (ZW ha) (ZW hb)) K
def box (st:List Nat):List V:=[.row 132 (Qu st)]
def Gq:V:= .win 0 [] 0 8 132
theorem ALA {i:Nat} (hi:i<8):AX P 231 (V.weak Gq) (.int .i64 (i:Int))=some (.ref 0 [i] 132):=by
 have:inside (i:Int) 8=true:=by simp[inside];omega
 simp[AX,Gq,V.weak,NR,this]
theorem Xx {B:Type} {st:List Nat} (hs:st.length=8) {i:Nat} (hi:i<8) (K:V→Option B):
 (AX P 231 (V.weak Gq) (.int .i64 (i:Int))).bind (fun a=>(AU (box st) 132 a).bind K)=K (.int .u64 (st.getD i 0:Int)):=by
 refine(AA (ALA hi) _).trans ?_
 exact AA (Cj (AML (u:=132) (fs:=Qu st) rfl (VS (by omega)))) _
theorem APj {st:List Nat} (hs:st.length=8) {i x:Nat} (hi:i<8):Gv P (box st) 132 (.ref 0 [i] 132) (.int .u64 (x:Int))=some (box (st.set i x)):=by
 have:=AIl (P:=P) (h:=box st) (t:=132) (u:=132) (id:=0) (i:=i) (fs:=Qu st) (v:=uw x) (x:=uw (st.getD i 0)) rfl (VS (by omega)) (APi x) rfl
 refine this.trans ?_
 simp[box,Qu,List.map_set]
theorem sl4 {p:List UInt8} {a j:Nat} (hp:a+4≤p.length) (hj:j<4):(bytesOf ((p.take (a+4)).drop a))[j]?=some (.int .u8 ((p.getD (a+j) 0).toNat:Int)):=by
 rw[←bytesOf_drop,←bytesOf_take,List.getElem?_drop,List.getElem?_take_of_lt (by omega),MI (by omega)]
theorem atB {B:Type} {h:List V} {f:Fl} {l:List UInt8} {i x:Nat} (hi:(bytesOf l)[i]?=some (.int .u8 (x:Int))) (K:V→Option B):
 (AX P 172 (V.weak (bL f l)) (.int .i64 (i:Int))).bind (fun a=>(AU h 5 a).bind K)=K (.int .u8 (x:Int)):=by
 refine(AC8 D9 hi _).trans ?_
 exact ldR _
theorem cvU {B:Type} {h:List V} {x:Nat} (hx:x<256) (K:V→Option B):(conv P h 5 132 (.int .u8 (x:Int))).bind K=K (.int .u64 (x:Int)):=by
 refine(AA (Ci En ..) _).trans ?_
 rw[wrap_u64 (by omega) (by omega)]
theorem AJE {h:List V} {f g:Fl} {p:List UInt8} {w:List Nat} {a:Nat} (hp:a+4≤p.length) (hw:w.length<100) (hf:f= .own∨f= .nil) (K:V→Option (V×List V)):
 Ph (uL f w) (bL g ((p.take (a+4)).drop a)) h K=
  K (uL .own (w++[(p.getD a 0).toNat*16777216+(p.getD (a+1) 0).toNat*65536+(p.getD (a+2) 0).toNat*256+(p.getD (a+3) 0).toNat])):=by
 have b:∀j,(p.getD j 0).toNat<256:=fun j=>UInt8.toNat_lt _
 have b0:=b (a+0);have b1:=b (a+1);have b2:=b (a+2);have b3:=b (a+3)
 unfold Ph
 refine(atB (i:=0) (sl4 hp (by omega)) _).trans<|(cvU (b _) _).trans<|(Xv (b:=16777216) (by omega) _).trans ?_
 refine(atB (i:=1) (sl4 hp (by omega)) _).trans<|(cvU (b _) _).trans<|(Xv (b:=65536) (by omega) _).trans<|(Fh (by omega) _).trans ?_
 refine(atB (i:=2) (sl4 hp (by omega)) _).trans<|(cvU (b _) _).trans<|(Xv (b:=256) (by omega) _).trans<|(Fh (by omega) _).trans ?_
 refine(atB (i:=3) (sl4 hp (by omega)) _).trans<|(cvU (b _) _).trans<|(Fh (by omega) _).trans ?_
 exact AK9 hf (by omega) _ _
theorem AJF {h:List V} {f:Fl} {w:List Nat} {t:Nat} (h16:16≤t) (ht:t<64) (hw:w.length=t) (K:V→V→Option (V×List V)):
 Pj (uL f w) (.int .i64 (t:Int)) h K=K (uw (w.getD (t-15) 0)) (uw (w.getD (t-2) 0)):=by
 unfold Pj
 refine(IW (b:=15) (by omega) (by omega) _).trans<|(SX (by omega) _).trans ?_
 exact(IW (b:=2) (by omega) (by omega) _).trans<|(SX (by omega) _)
theorem AMj {x:Nat} (hx:x<4294967296):sg0 x<4294967296:=Dh (Dh (Ah hx) (Ah hx)) (JI _ hx)
theorem AMk {x:Nat} (hx:x<4294967296):sg1 x<4294967296:=Dh (Dh (Ah hx) (Ah hx)) (JI _ hx)
theorem AJG {h:List V} {f:Fl} {w:List Nat} {t:Nat} (h16:16≤t) (ht:t<64) (hw:w.length=t) (bw:B32 w) (hf:f= .own∨f= .nil) (K:V→Option (V×List V)):
 Pm (uL f w) (.int .i64 (t:Int)) (uw (w.getD (t-15) 0)) (uw (w.getD (t-2) 0)) h K=K (uL .own (w++[fv w t])):=by
 have a1:=bw.get (t-16);have a2:=bw.get (t-7);have a3:=bw.get (t-15);have a4:=bw.get (t-2)
 have s0:=AMj a3;have s1:=AMk a4
 unfold Pm
 rw[AFL _ f w rfl]
 refine(IW (b:=16) (by omega) (by omega) _).trans<|(SX (by omega) _).trans ?_
 refine(IW (b:=7) (by omega) (by omega) _).trans<|(SX (by omega) _).trans ?_
 refine(Fh (by omega) _).trans ?_
 refine(Gp a3 7 (by omega) (by omega) _).trans<|(Gp a3 18 (by omega) (by omega) _).trans<|(IY (Ah a3) (Ah a3) _).trans ?_
 refine(Qv (b:=8) (by omega) (ZW a3) _).trans ?_
 refine(IY (Dh (Ah a3) (Ah a3)) (JI 8 a3) _).trans ?_
 refine(Fh (show _+sg0 (w.getD (t-15) 0)<_ by omega) _).trans ?_
 refine(Gp a4 17 (by omega) (by omega) _).trans<|(Gp a4 19 (by omega) (by omega) _).trans<|(IY (Ah a4) (Ah a4) _).trans ?_
 refine(Qv (b:=1024) (by omega) (ZW a4) _).trans ?_
 refine(IY (Dh (Ah a4) (Ah a4)) (JI 1024 a4) _).trans ?_
 refine(Fh (show _+sg0 (w.getD (t-15) 0)+sg1 (w.getD (t-2) 0)<_ by omega) _).trans ?_
 refine(AJD _).trans ?_
 rw[fv,ad4]
 exact AK9 hf (by omega) _ _
theorem AJH {h:List V} {f:Fl} {v:List Nat} (hv:v.length=8) (K:V→V→Option (V×List V)):
 Pq (uL f v) h K=K (uw (v.getD 0 0)) (uw (v.getD 4 0)):=by
 unfold Pq
 exact(SX (i:=0) (by omega) _).trans<|(SX (i:=4) (by omega) _)
theorem AJI {h:List V} {f:Fl} {v:List Nat} (hv:v.length=8) (bv:B32 v) (K:V→Option (V×List V)):
 Pv (uL f v) (uw (v.getD 4 0)) h K=K (uw (v.getD 6 0 ^^^ (v.getD 4 0&&& (v.getD 5 0 ^^^ v.getD 6 0)))):=by
 have be:=bv.get 4;have bf:=bv.get 5;have bg:=bv.get 6
 unfold Pv
 refine(SX (i:=5) (by omega) _).trans<|(Xw be bf _).trans<|(APf (a:=4294967295) (by omega) (by omega) _).trans ?_
 refine(SX (i:=6) (by omega) _).trans<|(Xw (by omega) bg _).trans<|(IY (D5 be) (D5 (by omega)) _).trans ?_
 rw[APd be bf bg];rfl
theorem AJJ {h:List V} {f:Fl} {v:List Nat} (hv:v.length=8) (bv:B32 v) (K:V→Option (V×List V)):
 Px (uL f v) (uw (v.getD 0 0)) h K=K (uw ((v.getD 0 0&&& v.getD 1 0)|||(v.getD 2 0&&& (v.getD 0 0|||v.getD 1 0)))):=by
 have ba:=bv.get 0;have bb:=bv.get 1;have bc:=bv.get 2
 unfold Px
 refine(SX (i:=1) (by omega) _).trans<|(Xw ba bb _).trans ?_
 refine(SX (i:=2) (by omega) _).trans<|(Xw ba bc _).trans<|(IY (D5 ba) (D5 ba) _).trans ?_
 refine(SX (i:=1) (by omega) _).trans<|(SX (i:=2) (by omega) _).trans<|(Xw bb bc _).trans<|(IY (Dh (D5 ba) (D5 ba)) (D5 bb) _).trans ?_
 rw[APe];rfl
def s1E (e:Nat):Nat:=(EF e 6 ^^^ EF e 11) ^^^ EF e 25
def s0A (a:Nat):Nat:=(EF a 2 ^^^ EF a 13) ^^^ EF a 22
theorem AFN {e:Nat} (h:e<4294967296):s1E e<4294967296:=Dh (Dh (Ah h) (Ah h)) (Ah h)
theorem AFO {e:Nat} (h:e<4294967296):s0A e<4294967296:=Dh (Dh (Ah h) (Ah h)) (Ah h)
theorem AJL {h:List V} {f g k:Fl} {v w:List Nat} {c t:Nat} (hv:v.length=8) (bv:B32 v) (hw:w.length=64) (bw:B32 w) (ht:t<64) (hc:c<4294967296) (K:V→Option (V×List V)):
 Py (uL k BV) (uL g w) (uL f v) (.int .i64 (t:Int)) (uw (v.getD 4 0)) (uw c) h K=K (uw (v.getD 7 0+s1E (v.getD 4 0)+c+BV.getD t 0+w.getD t 0)):=by
 have be:=bv.get 4;have b7:=bv.get 7;have bk:=AK7.get t;have bt:=bw.get t
 have s:=AFN be
 unfold Py
 refine(SX (i:=7) (by omega) _).trans<|(Gp be 6 (by omega) (by omega) _).trans<|(Gp be 11 (by omega) (by omega) _).trans<|(IY (Ah be) (Ah be) _).trans ?_
 refine(Gp be 25 (by omega) (by omega) _).trans<|(IY (Dh (Ah be) (Ah be)) (Ah be) _).trans ?_
 refine(Fh (show _+s1E (v.getD 4 0)<_ by omega) _).trans<|(Fh (show _+s1E (v.getD 4 0)+c<_ by omega) _).trans ?_
 refine(SX (by rw[AK6];exact ht) _).trans<|(Fh (show _+s1E (v.getD 4 0)+c+_<_ by omega) _).trans ?_
 exact(SX (by omega) _).trans<|(Fh (show _+s1E (v.getD 4 0)+c+_+_<_ by omega) _)
theorem AJM {h:List V} {a c:Nat} (ba:a<4294967296) (hc:c<4294967296) (K:V→Option (V×List V)):
 Pz (uw a) (uw c) h K=K (uw (s0A a+c)):=by
 have s:=AFO ba
 unfold Pz
 refine(Gp ba 2 (by omega) (by omega) _).trans<|(Gp ba 13 (by omega) (by omega) _).trans<|(IY (Ah ba) (Ah ba) _).trans ?_
 refine(Gp ba 22 (by omega) (by omega) _).trans<|(IY (Dh (Ah ba) (Ah ba)) (Ah ba) _).trans ?_
 exact(Fh (show s0A a+c<_ by omega) _)
theorem ALB (z0 z1 z2 z3 z4 z5 z6 z7:Nat):CU P 231 8 [(0,.int .u64 (z0:Int)),(1,.int .u64 (z1:Int)),(2,.int .u64 (z2:Int)),(3,.int .u64 (z3:Int)),(4,.int .u64 (z4:Int)),(5,.int .u64 (z5:Int)),(6,.int .u64 (z6:Int)),(7,.int .u64 (z7:Int))]=some (uL .own [z0,z1,z2,z3,z4,z5,z6,z7]):=by
 simp[CU,NR,Bv,Bo,AEv,Bq,En,cp,MC,uL,Qu,uw,List.replicate,AQ,V.clean,Df]
theorem AJN {h:List V} {f:Fl} {v:List Nat} {a e x y:Nat} (hv:v.length=8) (bv:B32 v) (hx:x<4294967296*8) (hy:y<4294967296*8) (K:V→Option (V×List V)):
 P5 (uL f v) (uw a) (uw e) (uw x) (uw y) h K=
  K (uL .own [(x+y)%4294967296,a,v.getD 1 0,v.getD 2 0,(v.getD 3 0+x)%4294967296,e,v.getD 5 0,v.getD 6 0]):=by
 have b3:=bv.get 3
 unfold P5
 refine(Fh (by omega) _).trans<|(AJD _).trans<|(SX (i:=1) (by omega) _).trans<|(SX (i:=2) (by omega) _).trans<|(SX (i:=3) (by omega) _).trans ?_
 refine(Fh (by omega) _).trans<|(AJD _).trans<|(SX (i:=5) (by omega) _).trans<|(SX (i:=6) (by omega) _).trans ?_
 exact AA (ALB _ _ _ _ _ _ _ _) _
theorem AMl (e f g h k w:Nat):chE e f g h k w=(h+s1E e+(g ^^^ (e&&& (f ^^^ g)))+k+w)%4294967296:=ad5 ..
theorem AMm (a b c:Nat):mjA a b c=(s0A a+((a&&& b)|||(c&&& (a|||b))))%4294967296:=rfl
theorem AJO {k w v:List Nat} {t:Nat}:
 [(v.getD 7 0+s1E (v.getD 4 0)+(v.getD 6 0 ^^^ (v.getD 4 0&&& (v.getD 5 0 ^^^ v.getD 6 0)))+k.getD t 0+w.getD t 0+(s0A (v.getD 0 0)+((v.getD 0 0&&& v.getD 1 0)|||(v.getD 2 0&&& (v.getD 0 0|||v.getD 1 0)))))%4294967296,
   v.getD 0 0,v.getD 1 0,v.getD 2 0,
   (v.getD 3 0+(v.getD 7 0+s1E (v.getD 4 0)+(v.getD 6 0 ^^^ (v.getD 4 0&&& (v.getD 5 0 ^^^ v.getD 6 0)))+k.getD t 0+w.getD t 0))%4294967296,
   v.getD 4 0,v.getD 5 0,v.getD 6 0]=rnd k w t v:=by
 rw[AFA,AMl,AMm,ASC,ASD,Nat.add_mod_mod]
end
section
open Go AM
theorem ADC (p:List UInt8) (o t:Nat) (ho:o+4*t+4≤p.length) (ht:t<16):
 (p.getD (o+4*t) 0).toNat*16777216+(p.getD (o+4*t+1) 0).toNat*65536+(p.getD (o+4*t+2) 0).toNat*256+(p.getD (o+4*t+3) 0).toNat=wordAt ((p.drop o).take 64) t:=by
 have e:∀j,j<64→((p.drop o).take 64).getD j 0=p.getD (o+j) 0:=by
  intro j hj
  simp[List.getD_eq_getElem?_getD,List.getElem?_take,List.getElem?_drop,hj]
 have b:∀j,(p.getD j 0).toNat<256:=fun j=>UInt8.toNat_lt _
 rw[wordAt,e _ (by omega),e _ (by omega),e _ (by omega),e _ (by omega),AJB (b _) (b _) (b _) (b _)]
 simp only[Nat.add_assoc]
theorem AJP (p:List UInt8) (t6:V) (o:Nat) (m4:Nat) (v:List Nat) (f:Fl) (hv:v.length=8) (bv:B32 v) (N:V×List V→Prop) (R:Option (V×List V))
 (k:∀st:List Nat,st.length=8→B32 st→Em (bL .own p) t6 Gq (.int .i64 ((o+64:Nat):Int)) (box st)=Em (bL .own p) t6 Gq (.int .i64 ((o+64:Nat):Int)) (box st)) (ho:o<2^40):
 ∀(n i:Nat) (st:List Nat),i+n=8→st.length=8→B32 st→
 KU (bL .own p) t6 Gq (.int .i64 (o:Int)) (uL f v) (.int .i64 (i:Int)) m4 (box st)=
  Em (bL .own p) t6 Gq (.int .i64 ((o+64:Nat):Int)) (box (MJ v n i st)):=by
 intro n
 induction n with
 |zero=>
  intro i st hi hs bs
  rw[NM,P6,Gn (by omega),BK,Wj]
  refine(Fe (b:=64) (by omega) _).trans ?_
  rfl
 |succ n ih=>
  intro i st hi hs bs
  rw[NM,P6,GL (by omega),BJ,Wh]
  have b1:=bs.get i;have b2:=bv.get i
  refine(Xx hs (by omega) _).trans<|(SX (by omega) _).trans<|(Fh (by omega) _).trans<|(AJD _).trans ?_
  refine(AA (ALA (by omega)) _).trans<|(AA (APj hs (by omega)) _).trans ?_
  rw[Wi]
  refine(Fe (b:=1) (by omega) _).trans ?_
  exact ih (i+1) _ (by omega) (by simp[hs]) (bs.set i (Tc _ _))
theorem AMn (p:List UInt8) (o m4:Nat) (ho:o<2^40) (w st:List Nat) (g kf:Fl) (hw:w.length=64) (bw:B32 w) (hs:st.length=8) (bs:B32 st):
 ∀(n t:Nat) (v:List Nat) (f:Fl),t+n=64→v.length=8→B32 v→
 OA (bL .own p) (uL kf BV) Gq (.int .i64 (o:Int)) (uL g w) (uL f v) (.int .i64 (t:Int)) m4 (box st)=
  Em (bL .own p) (uL kf BV) Gq (.int .i64 ((o+64:Nat):Int)) (box (MJ (Qr BV w n t v) 8 0 st)):=by
 intro n
 induction n with
 |zero=>
  intro t v f ht hv bv
  rw[P7,Po,Gn (by omega),BK,WZ]
  exact AJP p _ o m4 v f hv bv (fun _=>True) none (fun _ _ _=>rfl) ho 8 0 st rfl hs bs
 |succ n ih=>
  intro t v f ht hv bv
  have c1:(v.getD 6 0 ^^^ (v.getD 4 0&&& (v.getD 5 0 ^^^ v.getD 6 0)))<4294967296:=Dh (bv.get 6) (D5 (bv.get 4))
  have c2:((v.getD 0 0&&& v.getD 1 0)|||(v.getD 2 0&&& (v.getD 0 0|||v.getD 1 0)))<4294967296:=AE5 (D5 (bv.get 0)) (D5 (bv.get 2))
  have s1:=AFN (bv.get 4);have s0:=AFO (bv.get 0);have b7:=bv.get 7;have bk:=AK7.get t;have bt:=bw.get t
  rw[P7,Po,GL (by omega),BJ,AJH hv,AJI hv bv,AJJ hv bv,AJL hv bv hw bw (by omega) c1,AJM (bv.get 0) c2,
   AJN hv bv (by omega) (by omega),AJO,WY,AFB]
  refine(Fe (b:=1) (by omega) _).trans ?_
  exact ih (t+1) _ .own (by omega) rfl (ZR bv t).1
theorem APl (w:List Nat) (t:Nat):fv w t<4294967296:=Tc _ _
theorem AJQ (f:Fl) {st:List Nat} (hs:st.length=8) (K:V→Option (V×List V)):Pn Gq (box st) K=K (uL .own st):=by
 unfold Pn
 refine(AA (show CU P 231 0 []=some (uL .own [])by simp[CU,NR,Bv,uL,Qu,AQ,Df,MC]) _).trans ?_
 have c:Ac (box st) (V.weak Gq)=some (Qu st):=by
  simp[Ac,Gq,V.weak,box,rd,V.at,V.items]
  rw[List.take_of_length_le (by rw[Oc];omega)]
 exact AA (AC9 NR (Or.inl rfl) c (Tv _) (Tz _) (by rw[Oc];simp[Qu];omega) MC) _
theorem AJR (p:List UInt8) (o m4:Nat) (ho:o<2^40) (st:List Nat) (kf:Fl) (hs:st.length=8) (bs:B32 st):
 ∀(n t:Nat) (w:List Nat),t+n=64→16≤t→w.length=t→B32 w→
 JE (bL .own p) (uL kf BV) Gq (.int .i64 (o:Int)) (uL .own w) (.int .i64 (t:Int)) m4 (box st)=
  Em (bL .own p) (uL kf BV) Gq (.int .i64 ((o+64:Nat):Int)) (box (MJ (Qr BV (Tq n t w) 64 0 st) 8 0 st)):=by
 intro n
 induction n with
 |zero=>
  intro t w ht h16 hw bw
  rw[J4,KR,Gn (by omega),BK,AJQ .own hs,WX]
  exact AMn p o m4 ho w st .own kf (by omega) bw hs bs 64 0 st .own rfl hs bs
 |succ n ih=>
  intro t w ht h16 hw bw
  rw[J4,KR,GL (by omega),BJ,Pg,Gn (by omega),BK,
   AJF h16 (by omega) hw,AJG h16 (by omega) hw bw (Or.inl rfl),KT]
  refine(Fe (b:=1) (by omega) _).trans ?_
  refine ih (t+1) (w++[fv w t]) (by omega) (by omega) (by simp[hw]) ?_
  intro x hx;rcases List.mem_append.1 hx with hx|hx
  ·exact bw x hx
  ·rw[List.mem_singleton.1 hx];exact APl _ _
theorem AMo (p:List UInt8) (o m4:Nat) (ho:o<2^40) (hp:o+64≤p.length) (st:List Nat) (kf:Fl) (hs:st.length=8) (bs:B32 st):
 ∀(n t:Nat) (w:List Nat),t+n=16→w.length=t→B32 w→
 JE (bL .own p) (uL kf BV) Gq (.int .i64 (o:Int)) (uL .own w) (.int .i64 (t:Int)) m4 (box st)=
  Em (bL .own p) (uL kf BV) Gq (.int .i64 ((o+64:Nat):Int)) (box (MJ (Qr BV (Tq 48 16 (Xr ((p.drop o).take 64) n t w)) 64 0 st) 8 0 st)):=by
 intro n
 induction n with
 |zero=>
  intro t w ht hw bw
  rw[show t=16 by omega]at*
  exact AJR p o m4 ho st kf hs bs 48 16 w rfl (by omega) hw bw
 |succ n ih=>
  intro t w ht hw bw
  rw[J4,KR,GL (by omega),BJ,Pg,GL (by omega),BJ,WW]
  refine(Xn (a:=4) (by omega) _).trans<|(Fe (by omega) _).trans<|(Xn (a:=4) (by omega) _).trans<|(Fe (by omega) _).trans<|(Fe (b:=4) (by omega) _).trans ?_
  refine(AA (AMb (f:= .own) (t:=5) (xs:=bytesOf p) D9 (a:=o+4*t) (b:=o+4*t+4) (by omega) (by rw[Ag];omega)) _).trans ?_
  rw[bytesOf_take,bytesOf_drop]
  refine(AJE (g:=Fl.cut .own) (by omega) (by omega) (Or.inl rfl) _).trans ?_
  rw[KT]
  refine(Fe (b:=1) (by omega) _).trans ?_
  rw[ADC p o t (by omega) (by omega)]
  refine ih (t+1) _ (by omega) (by simp[hw]) ?_
  intro x hx;rcases List.mem_append.1 hx with hx|hx
  ·exact bw x hx
  ·rw[List.mem_singleton.1 hx];exact MH _ _
end
section
open Go AM
def J7 (st:List Nat):Nat→Nat→List UInt8
 |0,_=>[]
 |n+1,i=>[dg st (4*i),dg st (4*i+1),dg st (4*i+2),dg st (4*i+3)]++J7 st n (i+1)
def AFP (st:List Nat):Nat→Nat→List UInt8
 |0,_=>[]
 |n+1,i=>dg st i::AFP st n (i+1)
theorem AFQ {l:List UInt8} {t:Nat} {x:UInt8} (ht:t<l.length):(l.set t x).take (t+1)=l.take t++[x]:=by
 rw[List.take_add_one]
 simp[ht,List.take_set_of_le]
theorem Qw (st:List Nat):∀(n i:Nat) (w:List UInt8),i+n=w.length→Fg st n i w=w.take i++AFP st n i
 |0,i,w,h=>by rw[Fg,AFP,List.append_nil,List.take_of_length_le (by omega)]
 |n+1,i,w,h=>by
  rw[Fg,Qw st n (i+1) (w.set i (dg st i)) (by simp;omega),AFQ (by omega),AFP,List.append_assoc,List.singleton_append]
theorem Qx (st:List Nat):∀n i,AFP st (4*n) (4*i)=J7 st n i
 |0,_=>rfl
 |n+1,i=>by
  have:=Qx st n (i+1)
  rw[J7,←this];rfl
theorem Xy (st:List Nat):Fg st 32 0 (List.replicate 32 0)=J7 st 8 0:=by
 rw[Qw st 32 0 _ (by simp),List.take_zero,List.nil_append];exact Qx st 8 0
theorem AB5 (st:List Nat) (i j:Nat) (hj:j<4):dg st (4*i+j)=UInt8.ofNat (st.getD i 0/2^(24-8*j)%256):=by
 rw[dg,show(4*i+j)/4=i by omega,show(4*i+j)%4=j by omega]
theorem Qy (l:List UInt8):Eh (bytesOf l)=some l:=by
 induction l with
 |nil=>rfl
 |cons x l ih=>
  have:bytesOf (x::l)= .int .u8 (x.toNat:Int)::bytesOf l:=rfl
  rw[this]
  simp only[Eh,AM.byteOf,ih]
  simp
theorem APm (a b c d:Nat) (ha:a<256) (hb:b<256) (hc:c<256) (hd:d<256):CU P 172 4 [(0,.int .u8 (a:Int)),(1,.int .u8 (b:Int)),(2,.int .u8 (c:Int)),(3,.int .u8 (d:Int))]=some (bL .own [UInt8.ofNat a,UInt8.ofNat b,UInt8.ofNat c,UInt8.ofNat d]):=by
 simp[CU,D9,Bv,Oa,cp,Xc,List.replicate,AQ,V.clean,Df,bL,bytesOf,Nat.mod_eq_of_lt ha,Nat.mod_eq_of_lt hb,Nat.mod_eq_of_lt hc,Nat.mod_eq_of_lt hd]
theorem cv8 {B:Type} {h:List V} {x:Nat} (K:V→Option B):(conv P h 132 5 (.int .u64 (x:Int))).bind K=K (.int .u8 ((x%256:Nat):Int)):=by
 refine(AA (Ci NQ ..) _).trans ?_
 rw[IV]
theorem AJS {st:List Nat} (hs:st.length=8) (bs:B32 st) {l:List UInt8} {f:Fl} {i:Nat} (hi:i<8) (hl:l.length<1000) (K:V→Option (V×List V)):
 P9 Gq (bL .own l) (.int .i64 (i:Int)) (box st) K=K (bL .own (l++[dg st (4*i),dg st (4*i+1),dg st (4*i+2),dg st (4*i+3)])):=by
 have b:=ZW (bs.get i)
 have m:∀x,x%256<256:=fun x=>Nat.mod_lt _ (by decide)
 unfold P9
 refine(Xx hs hi _).trans<|(Qv (b:=16777216) (by decide) b _).trans<|(cv8 _).trans ?_
 refine(Xx hs hi _).trans<|(Qv (b:=65536) (by decide) b _).trans<|(Tt (b:=256) (by decide) _).trans<|(cv8 _).trans ?_
 refine(Xx hs hi _).trans<|(Qv (b:=256) (by decide) b _).trans<|(Tt (b:=256) (by decide) _).trans<|(cv8 _).trans ?_
 refine(Xx hs hi _).trans<|(Tt (b:=256) (by decide) _).trans<|(cv8 _).trans ?_
 refine(AA (APm _ _ _ _ (m _) (m _) (m _) (m _)) _).trans ?_
 refine(AA (AMc (Or.inl rfl) (by simp;omega)) _).trans ?_
 rw[show dg st (4*i)=dg st (4*i+0)from rfl,AB5 _ _ 0 (by omega),AB5 _ _ 1 (by omega),AB5 _ _ 2 (by omega),AB5 _ _ 3 (by omega)]
 simp only[Nat.mod_mod]
 rw[show(2^(24-8*3):Nat)=1 from rfl,Nat.div_one]
theorem AJT {st:List Nat} (hs:st.length=8) (bs:B32 st):∀(n i:Nat) (l:List UInt8),i+n=8→l.length=4*i→
 KW Gq (bL .own l) (.int .i64 (i:Int)) (box st)=some (.str (l++J7 st n i),[]):=by
 intro n
 induction n with
 |zero=>
  intro i l hi hl
  rw[NP,P8,Gn (by omega),BK,Wq]
  refine(AA (show conv P (box st) 172 9 (bL .own l)=some (.str l)by simp[conv,TS,JF,NQ,bL,Ac,Qy]) _).trans ?_
  rw[VN,J7,List.append_nil];rfl
 |succ n ih=>
  intro i l hi hl
  rw[NP,P8,GL (by omega),BJ,AJS (f:= .own) hs bs (by omega) (by omega),Wp,J7,←List.append_assoc]
  refine(Fe (b:=1) (by omega) _).trans ?_
  exact ih (i+1) _ (by omega) (by simp;omega)
theorem AMq (p:List UInt8) (kf:Fl) (hp:p.length<2^32):∀(n o:Nat) (st:List Nat),o+64*n=p.length→st.length=8→B32 st→
 Em (bL .own p) (uL kf BV) Gq (.int .i64 (o:Int)) (box st)=some (.str (Fg (blocks n st (p.drop o)) 32 0 (List.replicate 32 0)),[]):=by
 intro n
 induction n with
 |zero=>
  intro o st ho hs bs
  rw[QA,Pe]
  refine Jj _ |>.trans ?_
  refine(Gn (by omega) _).trans ?_
  rw[BK,Wl]
  refine(AA (show CU P 172 0 []=some (bL .own [])by simp[CU,D9,Bv,bL,bytesOf,AQ,Df,Xc]) _).trans ?_
  rw[Wn,Xy]
  exact AJT hs bs 8 0 [] rfl rfl
 |succ n ih=>
  intro o st ho hs bs
  rw[QA,Pe]
  refine Jj _ |>.trans ?_
  refine(GL (by omega) _).trans ?_
  rw[BJ,WU]
  refine(AA (show CU P 231 0 []=some (uL .own [])by simp[CU,NR,Bv,uL,Qu,AQ,Df,MC]) _).trans ?_
  rw[WV]
  refine(AMo p o _ (by omega) (by omega) st kf hs bs 16 0 [] rfl rfl (by intro x hx;cases hx)).trans ?_
  rw[AMe]
  have:=ih (o+64) (Td st ((p.drop o).take 64)) (by omega) (Ky _ bs hs).2 (Ky _ bs hs).1
  refine this.trans ?_
  rw[blocks,List.drop_drop]
theorem ADE:CU P 231 8 [(0,.int .u64 1779033703),(1,.int .u64 3144134277),(2,.int .u64 1013904242),(3,.int .u64 2773480762),(4,.int .u64 1359893119),(5,.int .u64 2600822924),(6,.int .u64 528734635),(7,.int .u64 1541459225)]=some (uL .own ER):=by
 refine(ALB 1779033703 3144134277 1013904242 2773480762 1359893119 2600822924 528734635 1541459225).trans ?_
 kernel_rfl
theorem AMr (N:Nat) (hN:N<2147483648):∀(n i:Nat) (p:List UInt8),i+n=8→(p.length+n)%64=0→p.length<2147483000→
 N9 (bL .own p) (.int .u64 ((8*N:Nat):Int)) (.int .i64 ((n:Int)-1)) []=
  some (.str (Fg (blocks ((p++Gx (8*N) n i).length/64) ER (p++Gx (8*N) n i)) 32 0 (List.replicate 32 0)),[]):=by
 intro n
 induction n with
 |zero=>
  intro i p hi hp hl
  rw[QB,U9]
  refine(AMg (by omega) _).trans ?_
  rw[BK,ABB]
  refine(AA ADB _).trans ?_
  rw[WS]
  refine(AA ADE _).trans<|(AA (show DR [] (uL .own ER)=some (Gq,box ER)by simp[DR,uL,Oc,AFJ,Gq,box]) _).trans ?_
  rw[WT]
  simp only[Gx,List.append_nil]
  have:=AMq p .sh (by omega) (p.length/64) 0 ER (by omega) AFJ AK8
  rw[List.drop_zero]at this
  exact this
 |succ n ih=>
  intro i p hi hp hl
  rw[QB,U9]
  refine(AMf (by omega) _).trans ?_
  rw[BJ,AA9,show((n+1:Nat):Int)-1=(n:Int)by omega]
  refine(Xn (a:=8) (by omega) _).trans<|(AB4 (by omega) _).trans ?_
  refine(Qv (Nat.pow_pos (by decide)) (by omega) _).trans<|(Tt (b:=256) (by decide) _).trans<|(cv8 _).trans ?_
  refine(app1 (Or.inl rfl) (by omega) _ (Nat.mod_lt _ (by decide)) _).trans ?_
  rw[ABA]
  refine(AA (KZ _ _ _) _).trans ?_
  rw[wrap_i64 (by omega) (by omega),Nat.mod_mod]
  have:=ih (i+1) (p++[lb (8*N) i]) (by omega) (by simp;omega) (by simp;omega)
  rw[List.append_assoc,List.singleton_append,lb,show 56-8*i=8*n by omega]at this
  rw[Gx,lb,show 56-8*i=8*n by omega]
  exact this
theorem AMs (s:List UInt8) (hs:s.length<2147483648):∀(n:Nat) (p:List UInt8),MK p.length=n→p.length+n<2147482000→
 N8 (.str s) (bL .own p) []=
  some (.str (Fg (blocks ((p++List.replicate n 0++Gx (8*s.length) 8 0).length/64) ER (p++List.replicate n 0++Gx (8*s.length) 8 0)) 32 0 (List.replicate 32 0)),[]):=by
 intro n
 induction n with
 |zero=>
  intro p hp hl
  rw[QC,U8]
  refine Jj _ |>.trans ?_
  refine(AA (Ko _ _ _ (by omega)) _).trans ?_
  rw[show(p.length:Int).tmod 64=((p.length%64:Nat):Int)by rfl]
  simp only[MK]at hp
  refine(APh (by omega) _).trans ?_
  rw[BK,AA7,List.replicate_zero,List.append_nil]
  refine(AA (show lenV P 9 (.str s)=some (.int .i64 (s.length:Int))by simp[lenV,TS]) _).trans ?_
  refine(Xn (a:=8) (by omega) _).trans ?_
  refine(AA (Ci En ..) _).trans ?_
  rw[wrap_u64 (by omega) (by omega),AA8]
  exact AMr s.length hs 8 0 p rfl (by omega) (by omega)
 |succ n ih=>
  intro p hp hl
  rw[QC,U8]
  refine Jj _ |>.trans ?_
  refine(AA (Ko _ _ _ (by omega)) _).trans ?_
  rw[show(p.length:Int).tmod 64=((p.length%64:Nat):Int)by rfl]
  simp only[MK]at hp
  refine(APg (by omega) _).trans ?_
  rw[BJ,AA6]
  refine(app1 (Or.inl rfl) (by omega) 0 (by omega) _).trans ?_
  have:=ih (p++[0]) (by simp only[MK,List.length_append,List.length_cons,List.length_nil];omega) (by simp;omega)
  rw[List.append_assoc p [0],List.singleton_append]at this
  exact this
theorem AFR {B:Type} {h:List V} {s:List UInt8} (hs:s.length≤2147483648) (K:V→Option B):(conv P h 9 172 (.str s)).bind K=K (bL .own s):=
 AA (by simp[conv,JF,NQ,Dq,hs,bL]) K
theorem AFS {s:List UInt8} (hs:s.length<2147480000):Cl 151 [.str s] []=some (.str (Xo s),[]):=by
 rw[AIC,AA4,AA5]
 refine(AFR (by omega) _).trans ?_
 refine(app1 (Or.inl rfl) (by omega) 128 (by omega) _).trans ?_
 have z:MK (s.length+1)<64:=Nat.mod_lt _ (by decide)
 exact AMs s (by omega) (MK (s.length+1)) (s++[128]) (by simp) (by simp;omega)
end
section
open Go AM
def NY:Nat→Nat→List UInt8
 |0,_=>[]
 |f+1,n=>if n<128 then[UInt8.ofNat n]else UInt8.ofNat (n%128+128)::NY f (n/128)
def Bf (n:Nat):List UInt8:=NY 10 n
theorem Au:∀f n,(NY f n).length≤f
 |0,_=>by simp[NY]
 |f+1,n=>by
  rw[NY];split
  ·simp
  ·have:=Au f (n/128);simp;omega
def BF (f:Fl) (l:List UInt8):V:= .agg 190 [bL f l]
def Dt (id:Nat):V:= .ref id [] 191
abbrev OK (f:Fl):Prop:=f= .own∨f= .nil
theorem ASG (a:Nat) (ha:a<256):AL .or (.int .u8 (a:Int)) (.int .u8 128)=some (.int .u8 ((a%128+128:Nat):Int)):=by
 have h:∀x:Fin 256,x.val|||128=x.val%128+128:=by decide
 have e:=h ⟨a,ha⟩
 rw[show(128:Int)=((128:Nat):Int)from rfl,AOp,Ce,Ce,show(BitVec.ofNat (IntKind.u8).bits a|||BitVec.ofNat (IntKind.u8).bits 128).toNat=a|||128 from AK4 (w:=8) (by omega) (by omega),e,wrap_u8 (by omega) (by omega)]
theorem Qz {B:Type} {id:Nat} (K:V→Option B):(BI (Dt id)).bind K=K (Dt id):=rfl
theorem ZX {B:Type} {id:Nat} (K:V→Option B):(BD P 191 0 (Dt id)).bind K=K (.ref id [0] 172):=
 AA (Qk (P:=P) (t:=191) (f:=0) AEy rfl (by rw[AIk];decide) id []) K
def wk:Fl→Fl
 | .own=> .sh
 |f=>f
theorem AB6 (f:Fl) (l:List UInt8):(bL f l).weak=bL (wk f) l:=by cases f<;>rfl
theorem Oe {B:Type} {h:List V} {id:Nat} {f:Fl} {l:List UInt8} (hh:h[id]?=some (BF f l)) (K:V×List V→Option B):
 (BM h 172 (.ref id [0] 172)).bind K=K (bL f l,h.set id (BF (wk f) l)):=by
 refine AA ?_ K
 have r:rd h id [0]=some (bL f l):=MF hh rfl
 simp[BM,r,wr,hh,BF,V.upd,AB6]
theorem tyB (f:Fl) (l:List UInt8):Bo P 172 (bL f l)=true:=by simp[Bo,D9,bL]
theorem unB (n:Nat) {f:Fl} (hf:f≠ .lent) (l:List UInt8):(bL f l).under n=true:=by cases f<;>first|rfl|exact absurd rfl hf
theorem ZY {B:Type} {h:List V} {id:Nat} {f:Fl} {l m:List UInt8} (hh:h[id]?=some (BF f l)) (K:List V→Option B):
 (Gv P h 172 (.ref id [0] 172) (bL .own m)).bind K=K (h.set id (BF .own m)):=by
 refine AA ?_ K
 exact OX hh rfl (tyB _ _) (unB _ (by intro h;cases h) _)
theorem JK (h:List V):Cl 68 [] h=some (Dt h.length,h++[BF .nil []]):=by
 rw[AL8,AEd,AEe]
 have b:bld P 191 []=some (BF .nil []):=by simp[bld,AEy,AMJ,Bv,BF,bL,bytesOf]
 refine(AA b _).trans ?_
 have w:(BF .nil []).weak=BF .nil []:=rfl
 have c:(Bo P 191 (BF .nil [])&&V.under h.length (BF .nil []))=true:=by simp[Bo,AEy,BF,V.under,AZ,bL]
 rw[w,if_pos c];rfl
theorem AMt {n:Nat} {h:List V}:(if(List.all [] V.okE)=true then AP n h (V.tup [])else none)=some (.tup [],h.take n):=rfl
theorem Gy {h:List V} {id:Nat} {a b:V}:(h.set id a).set id b=h.set id b:=by simp
theorem AMu {id:Nat} (h0:List V) (hid:id<h0.length):∀(k n:Nat) (f:Fl) (l:List UInt8) (h:List V),h=h0.set id (BF f l)→OK f→n<128^k→n<18446744073709551616→0<k→l.length+k≤2147483648→
 U0 (Dt id) (.int .u64 (n:Int)) h0.length h=some (.tup [],h0.set id (BF .own (l++NY k n))):=by
 intro k
 induction k with
 |zero=>intro n f l h _ _ _ _ h0 _;omega
 |succ k ih=>
  intro n f l h eh hf hn h64 _ hl
  have hh:h[id]?=some (BF f l):=by rw[eh,List.getElem?_set];simp[hid]
  have hw:(h.set id (BF (wk f) l))[id]?=some (BF (wk f) l):=Kq _ hh
  rw[AC5,AEf]
  by_cases hb:n<128
  ·refine(AMg (by omega) _).trans ?_
   rw[BK,AEi]
   refine(Qz _).trans<|(ZX _).trans<|(Oe hh _).trans ?_
   refine(cv8 _).trans<|(app1 hf (by omega) _ (Nat.mod_lt _ (by decide)) _).trans<|(Qz _).trans<|(ZX _).trans<|(ZY hw _).trans ?_
   rw[AMt,Gy,Nat.mod_eq_of_lt (by omega),NY,if_pos hb,eh,Gy,List.take_of_length_le (by simp)]
  ·refine(AMf (by omega) _).trans ?_
   rw[BJ,AEg]
   refine(Qz _).trans<|(ZX _).trans<|(Oe hh _).trans ?_
   refine(cv8 _).trans<|(AA (ASG _ (Nat.mod_lt _ (by decide))) _).trans<|(app1 hf (by omega) _ (by omega) _).trans<|(Qz _).trans<|(ZX _).trans<|(ZY hw _).trans ?_
   rw[AEh]
   have hs:AL .shr (.int .u64 (n:Int)) (.int .u64 7)=some (.int .u64 ((n/128:Nat):Int)):=by
    rw[Xe _ _ _ _ (by omega)]
    have:min ((7:Int)).toNat (IntKind.u64).bits=7:=by decide
    rw[this];exact congrArg _ (congrArg _ (Qq n 7))
   refine(AA hs _).trans ?_
   rw[Gy,show n%256%128=n%128 by omega,NY,if_neg hb]
   have k0:0<k:=by
    rcases Nat.eq_zero_or_pos k with h|h
    ·subst h;simp at hn;omega
    ·exact h
   have:=ih (n/128) .own (l++[UInt8.ofNat (n%128+128)]) (h.set id (BF .own (l++[UInt8.ofNat (n%128+128)]))) (by rw[eh,Gy]) (Or.inl rfl) (by rw[Nat.pow_succ]at hn;omega) (by omega) k0 (by simp;omega)
   rw[List.append_assoc,List.singleton_append]at this
   exact this
theorem Ee {h:List V} {id n:Nat} {f:Fl} {l:List UInt8} (hh:h[id]?=some (BF f l)) (hf:OK f) (hn:n<18446744073709551616) (hl:l.length+10≤2147483648):
 Cl 69 [Dt id,.int .u64 (n:Int)] h=some (.tup [],h.set id (BF .own (l++Bf n))):=by
 rw[AL9]
 exact AMu h (Ql hh) 10 n f l h (AIm hh).symm hf (Nat.lt_of_lt_of_le hn (by decide)) hn (by omega) hl
theorem ALC (id:Nat) (x:Int) (k:IntKind):AV [Dt id,.int k x]=[Dt id,.int k x]:=rfl
theorem Za {h:List V} {id:Nat} {f:Fl} {l s:List UInt8} (hh:h[id]?=some (BF f l)) (hf:OK f) (hl:l.length+10+s.length≤2147483648):
 Cl 70 [Dt id,.str s] h=some (.tup [],h.set id (BF .own (l++Bf s.length++s))):=by
 have nl:=Au 10 s.length
 rw[AMA,AEj]
 refine(AA (show lenV P 9 (.str s)=some (.int .i64 (s.length:Int))by simp[lenV,TS]) _).trans ?_
 refine(AA (Ci En ..) _).trans ?_
 rw[wrap_u64 (by omega) (by omega),ALC]
 refine(AA (Ee hh hf (by omega) (by omega)) _).trans ?_
 have h2:=Kq (BF .own (l++Bf s.length)) hh
 rw[AEk]
 refine(Qz _).trans<|(ZX _).trans<|(Oe h2 _).trans ?_
 refine(AA (AC9 D9 (Or.inl rfl) (y:=V.str s) (ys:=bytesOf s) rfl (CS s) (GZ s) (by rw[Ag,Ag,List.length_append,Bf];omega) Xc) _).trans ?_
 rw[←GY]
 refine(Qz _).trans<|(ZX _).trans<|(ZY (Kq _ h2) _).trans ?_
 rw[AMt,Gy,Gy,List.take_of_length_le (by simp)]
theorem Ho {h:List V} {id:Nat} {f:Fl} {l:List UInt8} (hh:h[id]?=some (BF f l)):Cl 71 [Dt id] h=some (.str l,h):=by
 rw[AMB,AEl,AEm]
 refine(Qz _).trans<|(ZX _).trans ?_
 have r:rd h id [0]=some (bL f l):=MF hh rfl
 refine(AA (show CP h 172 (.ref id [0] 172)=some (bL (wk f) l)by simp[CP,Cj r,AB6]) _).trans ?_
 refine(AA (show conv P h 172 9 (bL (wk f) l)=some (.str l)by simp[conv,TS,JF,NQ,bL,Ac,Qy]) _).trans ?_
 rw[VN,List.take_of_length_le (Nat.le_refl _)]
def Xz (n:Int):Nat:=if 0≤n then(2*n).toNat else(-2*n-1).toNat
theorem UA {h:List V} {id:Nat} {n:Int} {f:Fl} {l:List UInt8} (hh:h[id]?=some (BF f l)) (hf:OK f) (h1: -9223372036854775808≤n) (h2:n<9223372036854775808) (hl:l.length+10≤2147483648):
 Cl 129 [Dt id,.int .i64 n] h=some (.tup [],h.set id (BF .own (l++Bf (Xz n)))):=by
 rw[AH7,AAr]
 refine(AA (Ci En ..) _).trans ?_
 refine(AA (AK1 _ _ _ _ (by omega)) _).trans ?_
 refine(AA (Xe _ _ _ _ (by omega)) _).trans ?_
 have m1:min ((1:Int)).toNat (IntKind.u64).bits=1:=by decide
 have m63:min ((63:Int)).toNat (IntKind.i64).bits=63:=by decide
 rw[m1,m63]
 refine(AA (Ci En ..) _).trans ?_
 have key:AL .xor (.int .u64 (IntKind.wrap .u64 (IntKind.wrap .u64 n*2^1))) (.int .u64 (IntKind.wrap .u64 (n.fdiv (2^63))))=some (.int .u64 ((Xz n:Nat):Int)):=by
  rw[GX,GX,GX]
  by_cases hn:0≤n
  ·have e1:n%18446744073709551616*2^1%18446744073709551616=(((2*n).toNat:Nat):Int):=by omega
   have e2:n.fdiv (2^63)%18446744073709551616=((0:Nat):Int):=by
    rw[Int.fdiv_eq_ediv_of_nonneg _ (by decide)];omega
   rw[e1,e2,u64_xor (by omega) (by omega),Nat.xor_zero,Xz,if_pos hn]
  ·have e1:n%18446744073709551616*2^1%18446744073709551616=((18446744073709551615-(-2*n-1).toNat:Nat):Int):=by omega
   have e2:n.fdiv (2^63)%18446744073709551616=((18446744073709551615:Nat):Int):=by
    rw[Int.fdiv_eq_ediv_of_nonneg _ (by decide)];omega
   have hb:(-2*n-1).toNat<18446744073709551616:=by omega
   rw[e1,e2,u64_xor (by omega) (by omega),Xz,if_neg hn]
   generalize (-2*n-1).toNat=m at hb
   have hx:∀x:Nat,x<18446744073709551616→x ^^^ 18446744073709551615=18446744073709551615-x:=by
    intro x hx
    apply Nat.eq_of_testBit_eq
    intro i
    rw[show 18446744073709551615-x=2^64-(x+1)by omega,Nat.testBit_two_pow_sub_succ (n:=64) hx i,Nat.testBit_xor,show(18446744073709551615:Nat)=2^64-1 by rfl,Nat.testBit_two_pow_sub_one]
    by_cases hi:i<64
    ·simp[hi]
    ·have:x.testBit i=false:=Nat.testBit_lt_two_pow (Nat.lt_of_lt_of_le hx (Nat.pow_le_pow_right (n:=2) (i:=64) (by decide) (by omega)))
     simp[hi,this]
   rw[hx _ (by omega)]
   congr 3;omega
 refine(AA key _).trans ?_
 rw[ALC]
 have hu:Xz n<18446744073709551616:=by simp only[Xz];split<;>omega
 refine(AA (Ee hh hf hu hl) _).trans ?_
 rw[AMt,List.take_of_length_le (by simp)]
end
section
open Go AM
structure Vtx where
 id:Int
 val:Int
 act:Bool
 has:Bool
 inn:Int
 deriving DecidableEq
def JL (x:Vtx):Prop:=I64 x.id∧I64 x.val∧I64 x.inn
abbrev Y9:TypeId:=85
def CW (x:Vtx):V:= .agg Y9 [.int .i64 x.id,.int .i64 x.val,.bool x.act,.bool x.has,.int .i64 x.inn]
@[go_sem] theorem AFT (x:Vtx):(CW x).pl=true:=(rfl)
@[go_sem] theorem AB7 (l:List Vtx):IB (l.map CW)=true:=CY (fun _=>rfl) l
@[go_sem] theorem ARC (x:Vtx):tyG Y9 (CW x)=true:=Qp ..
@[go_sem] theorem ARD (l:List Vtx):(l.map CW).all (tyG Y9)=true:=all_map (fun _=>Qp ..) l
theorem APn {l:List Vtx} {i:Nat} (h:i<l.length):(l.map CW)[i]?=some (CW l[i]):=by simp[h]
end
section
open Go AM
abbrev iv (n:Nat):V:= .int .i64 (n:Int)
theorem AB8 {B:Type} {h:List V} {x:Int} (h0:0≤x) (h1:x<9223372036854775808) (K:V→Option B):(conv P h 3 132 (.int .i64 x)).bind K=K (.int .u64 (x.toNat:Int)):=by
 refine(AA (Ci En ..) _).trans ?_
 rw[wrap_u64 (by omega) (by omega)]
 congr 2;omega
def sL (f:Fl) (l:List (List UInt8)):V:= .lst 9 f (l.map V.str)
theorem ALD (s:List UInt8):Bo P 9 (.str s)=true:=by simp[Bo,K_9,Bq,TS]
theorem AMv (n:Nat) (h:List V) (f:Fl) (hf:f≠ .lent) (l:List (List UInt8)):AP n h (sL f l)=some (sL .sh l,h.take n):=by
 cases f<;>first|exact absurd rfl hf|rfl
theorem UB:∀(n:Nat) (l:List (List UInt8)),AZ n (l.map V.str)=true
 |_,[]=>rfl
 |n,x::l=>by simp only[List.map_cons,AZ,UB n l];rfl
theorem AFU (n:Nat) (f:Fl) (l:List (List UInt8)):(sL f l).under n=true:=by cases f<;>first|rfl|exact UB n l
theorem APo {B:Type} {f:Fl} {h:List V} {l:List (List UInt8)} (hf:OK f) (hl:l.length+1≤2147483648) (x:List UInt8) (K':V→Option B):
 (CU P 42 1 [(0,.str x)]).bind (fun y=>(Dv P 42 h (sL f l) y).bind K')=K' (sL .own (l++[x])):=by
 refine(AA (AFF AMH (ALD x) rfl AOn ⟨_,rfl⟩) _).trans ?_
 have t1:GR P 9 [V.str x]=true:=by simp[GR,ALD]
 refine(AA (AC9 AMH hf (y:=V.lst 9 .own [.str x]) rfl rfl t1 (by simpa using hl) AOn) _).trans ?_
 rw[sL,List.map_append];rfl
end
end Go.Proofs.YtoakaehjnbhgmaaGreatDoor
