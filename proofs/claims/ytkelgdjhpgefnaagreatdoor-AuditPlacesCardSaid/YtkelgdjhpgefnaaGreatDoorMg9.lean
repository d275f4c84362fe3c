/-
  Part of the proof of a statement about the given program: an abstract machine over its code, the simulation, its functions' equations, what they compute.
-/
import Derived.Test.YtkelgdjhpgefnaaGreatDoorMg4
import Derived.Test.YtkelgdjhpgefnaaGreatDoorMg7
import Derived.Test.YtkelgdjhpgefnaaGreatDoorMg8
set_option linter.unusedVariables false
set_option linter.unusedSimpArgs false
set_option linter.unusedSectionVars false
set_option maxRecDepth 100000
noncomputable section
namespace Go.Proofs.YtkelgdjhpgefnaaGreatDoor
section
open Go AM
end
section
open Go AM
section
variable {P:Program}
theorem Dj {h:List V} {t:TypeId} {id:Nat} {p:List Nat} {v:V} (hr:rd h id p=some v):BK h t (.ref id p t)=some v:=by simp[BK,hr]
theorem JX {h:List V} {t:TypeId} {v:V}:BK h t (.rop t v)=some v:=by simp[BK]
theorem Gm {h:List V} {id:Nat} {v:V} (hv:h[id]?=some v):rd h id []=some v:=by simp[rd,hv,V.at]
theorem Vb {h:List V} {id i:Nat} {u:TypeId} {fs:List V} {v:V} (hv:h[id]?=some (.agg u fs)) (hi:fs[i]?=some v):rd h id [i]=some v:=by simp[rd,hv,V.at,hi]
theorem Fg {h:List V} {t:TypeId} {id:Nat} {v w:V} (hw:h[id]?=some w) (ht:CO P t v=true) (hu:v.under (id+1)=true):G6 P h t (.ref id [] t) v=some (h.set id v):=by
 simp[G6,ht,hu,wr,hw,V.upd]
theorem Nc {h:List V} {t u:TypeId} {id i:Nat} {fs:List V} {v x:V} (hw:h[id]?=some (.agg u fs)) (hi:fs[i]?=some x) (ht:CO P t v=true) (hu:v.under (id+1)=true):G6 P h t (.ref id [i] t) v=some (h.set id (.agg u (fs.set i v))):=by
 simp[G6,ht,hu,wr,hw,V.upd,hi]
end
theorem Vd {α:Type} {h:List α} {i:Nat} {x:α} (hx:h[i]?=some x):i<h.length:=by
 rcases Nat.lt_or_ge i h.length with h'|h'
 ·exact h'
 ·rw[List.getElem?_eq_none h']at hx;cases hx
theorem take_set {α:Type} (h z:List α) (i:Nat) (y:α):(h.set i y++z).take h.length=h.set i y:=by
 have:(h.set i y).length=h.length:=by simp
 rw[←this];simp
theorem Ve {R:Type} {f:FuncId} {cs vs h:List V} (k:V→List V→Option R) (he:ER.ext f=false) (hp:ER.pure f=false) (hs:(ER.seq f).1=0:=by kernel_rfl):CX P ER W (.clo f cs) vs h k=(Cl f (Ai (vs++cs)) h).bind fun r=>k r.1 r.2:=by
 simp only[CX,GK,he,hp,hs,ne_eq,not_true_eq_false,Bool.false_eq_true,if_false,if_true];rfl
end
section
open Go AM
theorem X9 (n:Nat) (h:List V) (k:IntKind) (b:Int):Be n h (.int k b)=some (.int k b,h.take n):=rfl
end
section
open Go AM
def vw (n:Nat):V:= .int .u32 (n:Int)
def Hg (l:List Nat):List V:=l.map vw
def A8 (l:List Nat):V:= .agg 200 (Hg l)
def La (l:List Nat):V:= .agg 210 (Hg l)
def B32 (l:List Nat):Prop:=∀x∈l,x<4294967296
def EM (x n:Nat):Nat:=x*2^(32-n)%4294967296|||x/2^n
theorem Bz {x n:Nat} (hx:x<4294967296):EM x n<4294967296:=
 Nat.or_lt_two_pow (n:=32) (Nat.mod_lt _ (by decide)) (Nat.lt_of_le_of_lt (Nat.div_le_self _ _) hx)
theorem PK (n:Int):IntKind.wrap .u64 n=n%18446744073709551616:=by simp[IntKind.wrap,IntKind.bits,IntKind.signed]
theorem PN (a n:Nat):Int.fdiv (a:Int) (2^n)=((a/2^n:Nat):Int):=by
 have e:(2:Int)^n=((2^n:Nat):Int):=by push_cast;rfl
 rw[e,Int.fdiv_eq_ediv_of_nonneg _ (Int.natCast_nonneg _)];rfl
theorem JY {a:Nat} (n:Nat) (hn:n≤32):AQ .shr (.int .u32 (a:Int)) (.int .u64 (n:Int))=some (.int .u32 ((a/2^n:Nat):Int)):=by
 rw[ZP _ _ _ _ (by omega)]
 have:min ((n:Int)).toNat (IntKind.u32).bits=n:=by simp[IntKind.bits];omega
 rw[this,PN]
theorem JZ {a:Nat} (n:Nat) (hn:n≤32):AQ .shl (.int .u32 (a:Int)) (.int .u64 (n:Int))=some (.int .u32 ((a*2^n%4294967296:Nat):Int)):=by
 rw[ABC _ _ _ _ (by omega)]
 have:min ((n:Int)).toNat (IntKind.u32).bits=n:=by simp[IntKind.bits];omega
 rw[this]
 have e:((a:Int)*2^n)=((a*2^n:Nat):Int):=by push_cast;rfl
 rw[e,HY]
theorem YA (a b:Nat):AQ .add (.int .u32 (a:Int)) (.int .u32 (b:Int))=some (.int .u32 (((a+b)%4294967296:Nat):Int)):=by
 rw[EG,show(a:Int)+(b:Int)=((a+b:Nat):Int)by omega,HY]
theorem YB {x:Nat} (hx:x<4294967296) (n:Nat) (h1:1≤n) (h2:n≤31):Cl 150 [.int .u32 (x:Int),.int .i64 (n:Int)] []=some (.int .u32 (EM x n:Int),[]):=by
 have key:Cl 160 [.int .u32 (x:Int),.int .i64 (-(n:Int))] []=some (.int .u32 (EM x n:Int),[]):=by
  rw[X7]
  have w:IntKind.wrap .u64 (-(n:Int))=((18446744073709551616-n:Nat):Int):=by rw[PK];omega
  have m:(18446744073709551616-n)&&& 31=32-n:=by
   rw[show(31:Nat)=2^5-1 from rfl,Nat.and_two_pow_sub_one_eq_mod];omega
  simp only[SQ,SS,SV,Du Nb,w,Option.bind_some]
  rw[show(31:Int)=((31:Nat):Int)from rfl,u64_and (by omega) (by omega),m,Option.bind_some,JZ _ (by omega),Option.bind_some,L8,show(32:Int)-((32-n:Nat):Int)=(n:Int)by omega,wrap_u64 (by omega) (by omega),Option.bind_some,JY _ (by omega),Option.bind_some,
   u32_or (Nat.mod_lt _ (by decide)) (Nat.lt_of_le_of_lt (Nat.div_le_self _ _) hx),Option.bind_some,X9]
  rfl
 rw[X6]
 have ng:un .neg (.int .i64 (n:Int))=some (.int .i64 (-(n:Int))):=by
  simp only[un];rw[show(0:Int)-(n:Int)= -(n:Int)by omega,wrap_i64 (by omega) (by omega)]
 have e:AP [] [V.int .u32 (x:Int),V.int .i64 (-(n:Int))]=[V.int .u32 (x:Int),V.int .i64 (-(n:Int))]:=rfl
 simp only[SL,SN,ng,Option.bind_some,e,key]
 rfl
theorem ABv {h:List V} {x:Nat} (hx:x<4294967296) (n:Nat) (h1:1≤n) (h2:n≤31):Cl 150 (AP h [.int .u32 (x:Int),.int .i64 (n:Int)]) []=some (.int .u32 (EM x n:Int),[]):=YB hx n h1 h2
theorem Fh {l:List Nat} {i:Nat} (hi:i<l.length):(Hg l)[i]?=some (vw (l.getD i 0)):=by
 simp[Hg,List.getElem?_map,List.getElem?_eq_getElem hi]
theorem B32.get {l:List Nat} (h:B32 l) (i:Nat):l.getD i 0<4294967296:=by
 rcases Nat.lt_or_ge i l.length with hi|hi
 ·rw[List.getD_eq_getElem?_getD,List.getElem?_eq_getElem hi];exact h _ (List.getElem_mem hi)
 ·rw[List.getD_eq_getElem?_getD,List.getElem?_eq_none hi];decide
theorem SX (l:List Nat) (i x:Nat):(Hg l).set i (vw x)=Hg (l.set i x):=by simp[Hg,List.map_set]
theorem AAG {id i:Nat} (hi:i<64):AZ P 210 (.ref id [] 210) (.int .i64 (i:Int))=some (.ref id [i] 58):=by
 have:inside (i:Int) 64=true:=by simp[inside];omega
 simp[AZ,ZV,this]
theorem ix8 {id i:Nat} (hi:i<8):AZ P 200 (.ref id [] 200) (.int .i64 (i:Int))=some (.ref id [i] 58):=by
 have:inside (i:Int) 8=true:=by simp[inside];omega
 simp[AZ,Iu,this]
theorem ixK {i:Nat} (hi:i<64) {l:List Nat} (hl:l.length=64):AZ P 210 (.rop 210 (La l)) (.int .i64 (i:Int))=some (.rop 58 (vw (l.getD i 0))):=by
 have:inside (i:Int) 64=true:=by simp[inside];omega
 simp[AZ,ZV,this,La,Fh (show i<l.length by omega)]
theorem ABw (x:Nat):CO P 58 (vw x)=true:=by simp[CO,AAE,BO,NZ,vw]
theorem ADr {h:List V} {id i:Nat} {l:List Nat} (hh:h[id]?=some (La l)) (hi:i<l.length):BK h 58 (.ref id [i] 58)=some (vw (l.getD i 0)):=Dj (Vb hh (Fh hi))
theorem ld8 {h:List V} {id i:Nat} {l:List Nat} (hh:h[id]?=some (A8 l)) (hi:i<l.length):BK h 58 (.ref id [i] 58)=some (vw (l.getD i 0)):=Dj (Vb hh (Fh hi))
theorem ABx {h:List V} {id i x:Nat} {l:List Nat} (hh:h[id]?=some (La l)) (hi:i<l.length):G6 P h 58 (.ref id [i] 58) (vw x)=some (h.set id (La (l.set i x))):=by
 rw[Nc hh (Fh hi) (ABw x) rfl,SX];rfl
theorem st8 {h:List V} {id i x:Nat} {l:List Nat} (hh:h[id]?=some (A8 l)) (hi:i<l.length):G6 P h 58 (.ref id [i] 58) (vw x)=some (h.set id (A8 (l.set i x))):=by
 rw[Nc hh (Fh hi) (ABw x) rfl,SX];rfl
def wordAt (p:List UInt8) (t:Nat):Nat:=((p.getD (4*t) 0).toNat*2^24%4294967296|||(p.getD (4*t+1) 0).toNat*2^16%4294967296)|||(p.getD (4*t+2) 0).toNat*2^8%4294967296|||(p.getD (4*t+3) 0).toNat
def PO (p:List UInt8):Nat→Nat→List Nat→List Nat
 |0,_,w=>w
 |n+1,t,w=>PO p n (t+1) (w.set t (wordAt p t))
theorem UE (p:List UInt8) (t:Nat):wordAt p t<4294967296:=by
 have h3:(p.getD (4*t+3) 0).toNat<2^32:=Nat.lt_of_lt_of_le (UInt8.toNat_lt _) (by decide)
 refine Nat.or_lt_two_pow (n:=32) (Nat.or_lt_two_pow (n:=32) (Nat.or_lt_two_pow (n:=32) (Nat.mod_lt _ (by decide)) (Nat.mod_lt _ (by decide))) (Nat.mod_lt _ (by decide))) h3
theorem B32.set {l:List Nat} (h:B32 l) (i:Nat) {x:Nat} (hx:x<4294967296):B32 (l.set i x):=by
 intro y hy
 rcases List.mem_or_eq_of_mem_set hy with hy|rfl
 ·exact h y hy
 ·exact hx
theorem MF {p:List UInt8} {i:Nat} (hi:i<p.length):(bytesOf p)[i]?=some (.int .u8 ((p.getD i 0).toNat:Int)):=by
 simp[bytesOf,List.getElem?_map,List.getElem?_eq_getElem hi]
theorem ixB {xs:List V} {f:Fl} {i:Nat} {v:V} (hv:xs[i]?=some v):AZ P 167 (.lst 5 f xs) (.int .i64 (i:Int))=some (.rop 5 v):=by
 have hi:=Vd hv
 have:inside (i:Int) xs.length=true:=by simp[inside,hi]
 simp[AZ,EU,this,hv]
theorem ixW {xs:List V} {f:Fl} {i:Nat} {v:V} (hv:xs[i]?=some v):AZ P 167 (V.weak (.lst 5 f xs)) (.int .i64 (i:Int))=some (.rop 5 v):=by
 cases f<;>exact ixB hv
theorem YC {h:List V} {f:Fl} {p:List UInt8} {t:Nat} {l:List Nat} (hp:4*t+4≤p.length) (ht:t<64) (hh:h[2]?=some (La l)) (hl:l.length=64) (K:List V→Option (V×List V)):
 NW (.ref 2 [] 210) (.int .i64 (t:Int)) (.lst 5 f (((bytesOf p).take (4*t+4)).drop (4*t))) h K=K (h.set 2 (La (l.set t (wordAt p t)))):=by
 have g:∀j,j<4→(((bytesOf p).take (4*t+4)).drop (4*t))[j]?=some (.int .u8 ((p.getD (4*t+j) 0).toNat:Int)):=by
  intro j hj
  rw[List.getElem?_drop,List.getElem?_take_of_lt (by omega),MF (by omega)]
 have i0:=ixW (f:=f) (g 0 (by omega));have i1:=ixW (f:=f) (g 1 (by omega));have i2:=ixW (f:=f) (g 2 (by omega));have i3:=ixW (f:=f) (g 3 (by omega))
 have b:∀j,(p.getD j 0).toNat<256:=fun j=>UInt8.toNat_lt _
 have c:∀x:Nat,x<256→conv P h 5 58 (.int .u8 (x:Int))=some (.int .u32 (x:Int)):=fun x hx=>by rw[Du NZ,wrap_u32 (by omega) (by omega)]
 have s24:∀x:Nat,AQ .shl (.int .u32 (x:Int)) (.int .u64 24)=some (.int .u32 ((x*2^24%4294967296:Nat):Int)):=fun x=>JZ (a:=x) 24 (by omega)
 have s16:∀x:Nat,AQ .shl (.int .u32 (x:Int)) (.int .u64 16)=some (.int .u32 ((x*2^16%4294967296:Nat):Int)):=fun x=>JZ (a:=x) 16 (by omega)
 have s8:∀x:Nat,AQ .shl (.int .u32 (x:Int)) (.int .u64 8)=some (.int .u32 ((x*2^8%4294967296:Nat):Int)):=fun x=>JZ (a:=x) 8 (by omega)
 have m:∀x:Nat,x%4294967296<4294967296:=fun x=>Nat.mod_lt _ (by decide)
 have o1:=Nat.or_lt_two_pow (n:=32) (m ((p.getD (4*t+0) 0).toNat*2^24)) (m ((p.getD (4*t+1) 0).toNat*2^16))
 have o2:=Nat.or_lt_two_pow (n:=32) o1 (m ((p.getD (4*t+2) 0).toNat*2^8))
 simp only[NW]
 rw[show(0:Int)=((0:Nat):Int)from rfl,show(1:Int)=((1:Nat):Int)from rfl,show(2:Int)=((2:Nat):Int)from rfl,show(3:Int)=((3:Nat):Int)from rfl,i0,i1,i2,i3]
 simp only[Option.bind_some,JX,c _ (b _),s24,s16,s8]
 rw[u32_or (m _) (m _)]
 simp only[Option.bind_some]
 rw[u32_or o1 (m _)]
 simp only[Option.bind_some]
 rw[u32_or o2 (by have:=b (4*t+3);omega)]
 simp only[Option.bind_some]
 rw[AAG ht,Option.bind_some]
 exact(congrArg (fun z=>Option.bind z fun h_1=>K h_1) (ABx (x:=wordAt p t) hh (by omega))).trans rfl
end
section
open Go AM
def sg0 (x:Nat):Nat:=(EM x 7 ^^^ EM x 18) ^^^ x/2^3
def sg1 (x:Nat):Nat:=(EM x 17 ^^^ EM x 19) ^^^ x/2^10
def ad (a b:Nat):Nat:=(a+b)%4294967296
def MG:Nat→Nat→List Nat→List Nat
 |0,_,w=>w
 |n+1,t,w=>MG n (t+1) (w.set t (ad (ad (ad (w.getD (t-16) 0) (w.getD (t-7) 0)) (sg0 (w.getD (t-15) 0))) (sg1 (w.getD (t-2) 0))))
theorem Vf (a b:Nat):ad a b<4294967296:=Nat.mod_lt _ (by decide)
theorem KI {a b:Nat} (ha:a<4294967296) (hb:b<4294967296):a ^^^ b<4294967296:=Nat.xor_lt_two_pow (n:=32) ha hb
theorem AAH {a b:Nat} (ha:a<4294967296) (hb:b<4294967296):a|||b<4294967296:=Nat.or_lt_two_pow (n:=32) ha hb
theorem Nh {a b:Nat} (ha:a<4294967296):a&&& b<4294967296:=Nat.lt_of_le_of_lt Nat.and_le_left ha
theorem SY {a:Nat} (n:Nat) (ha:a<4294967296):a/n<4294967296:=Nat.lt_of_le_of_lt (Nat.div_le_self _ _) ha
theorem Dw (a b:Nat):AQ .add (.int .u32 (a:Int)) (.int .u32 (b:Int))=some (.int .u32 (ad a b:Int)):=YA a b
def ZW (k:List Nat) (w:List Nat) (t:Nat) (v:List Nat):List Nat:=
 let a:=v.getD 0 0;let b:=v.getD 1 0;let c:=v.getD 2 0;let e:=v.getD 4 0;let f:=v.getD 5 0;let g:=v.getD 6 0
 let x:=ad (ad (ad (ad (v.getD 7 0) ((EM e 6 ^^^ EM e 11) ^^^ EM e 25)) (g ^^^ (e&&& (f ^^^ g)))) (k.getD t 0)) (w.getD t 0)
 let y:=ad ((EM a 2 ^^^ EM a 13) ^^^ EM a 22) ((a&&& b)|||(c&&& (a|||b)))
 [ad x y,a,b,c,ad (v.getD 3 0) x,e,f,g]
def PS (k w:List Nat):Nat→Nat→List Nat→List Nat
 |0,_,v=>v
 |n+1,t,v=>PS k w n (t+1) (ZW k w t v)
def Nj (v:List Nat):Nat→Nat→List Nat→List Nat
 |0,_,h=>h
 |n+1,i,h=>Nj v n (i+1) (h.set i (ad (h.getD i 0) (v.getD i 0)))
def DL:List Nat:=(match Jl with|V.agg _ l=>l|_=>[]).map fun v=>match v with|V.int _ n=>n.toNat|_=>0
theorem YD:Jl=La DL:=by kernel_rfl
theorem ABy:DL.length=64:=by kernel_rfl
def PU (h:List Nat) (p:List UInt8):List Nat:=
 let w:=MG 48 16 (PO p 16 0 (List.replicate 64 0))
 Nj (PS DL w 64 0 h) 8 0 h
theorem Vg {k w v:List Nat} (hv:B32 v) (t:Nat):B32 (ZW k w t v)∧(ZW k w t v).length=8:=by
 refine⟨?_,rfl⟩
 intro x hx
 simp only[ZW,List.mem_cons,List.not_mem_nil,or_false]at hx
 rcases hx with rfl|rfl|rfl|rfl|rfl|rfl|rfl|rfl<;>first|exact Vf _ _|exact hv.get _
theorem Si {v:List Nat}:∀(n i:Nat) (h:List Nat),B32 h→h.length=8→B32 (Nj v n i h)∧(Nj v n i h).length=8
 |0,_,h,hb,hl=>⟨hb,hl⟩
 |n+1,i,h,hb,hl=>Si n (i+1) _ (hb.set i (Vf _ _)) (by simp[hl])
theorem MH (h:List V):∀l:List Nat,Bd h (Hg l)=Hg l
 |[]=>rfl
 |x::l=>by simp only[Hg,List.map_cons,Bd];rw[show List.map vw l=Hg l from rfl,MH h l];rfl
theorem PV:∀l:List Nat,Ai (Hg l)=Hg l
 |[]=>rfl
 |x::l=>by simp only[Hg,List.map_cons,Ai];rw[show List.map vw l=Hg l from rfl,PV l];rfl
theorem MI:∀l:List Nat,AL (Hg l)=true
 |[]=>rfl
 |x::l=>by simp only[Hg,List.map_cons,AL];rw[show List.map vw l=Hg l from rfl,MI l];rfl
theorem PW (n:Nat):∀l:List Nat,Bv n (Hg l)=true
 |[]=>rfl
 |x::l=>by simp only[Hg,List.map_cons,Bv];rw[show List.map vw l=Hg l from rfl,PW n l];rfl
theorem Dn (n:Nat):∀l:List Nat,AV n (Hg l)=true
 |[]=>rfl
 |x::l=>by simp only[Hg,List.map_cons,AV];rw[show List.map vw l=Hg l from rfl,Dn n l];rfl
theorem AAI (n:Nat) (h:List V) (l:List Nat):Be n h (A8 l)=some (A8 l,h.take n):=by
 simp only[Be,A8,V.unmut,MH,V.norm,PV,V.clean,MI,V.over,PW,Bool.and_self,if_true]
theorem YE (v:List Nat) (hv:v.length=8) (x w z:V):∀(n i:Nat) (hs:List Nat),i+n=8→hs.length=8→
 JV (.ref 0 [] 200) (.ref 1 [] 200) (A8 v) (.int .i64 (i:Int)) [A8 hs,A8 (List.replicate 8 0),w,z]=some (A8 (Nj v n i hs),[]):=by
 intro n
 induction n with
 |zero=>
  intro i hs hi hl
  rw[KE]
  have:¬((i:Int)<8):=by omega
  have l0:BK [A8 hs,A8 (List.replicate 8 0),w,z] 200 (.ref 0 [] 200)=some (A8 hs):=Dj (Gm rfl)
  have s1:G6 P [A8 hs,A8 (List.replicate 8 0),w,z] 200 (.ref 1 [] 200) (A8 hs)=some [A8 hs,A8 hs,w,z]:=
   Fg rfl (by simp[CO,Iu,A8]) (by simp only[A8,V.under];exact Dn _ _)
  have l1:BK [A8 hs,A8 hs,w,z] 200 (.ref 1 [] 200)=some (A8 hs):=Dj (Gm rfl)
  simp only[KD,PG,b_lss,Option.bind_some,VN,this,if_false,l0,s1,l1,AAI,List.take_zero,Nj]
 |succ n ih=>
  intro i hs hi hl
  rw[KE]
  have hlt:(i:Int)<8:=by omega
  have ix:IQ P 200 (A8 v) (.int .i64 (i:Int))=some (vw (v.getD i 0)):=by
   have:inside (i:Int) 8=true:=by simp[inside];omega
   simp[IQ,A8,Iu,this,Fh (show i<v.length by omega),cp,ZU]
  have l0:BK [A8 hs,A8 (List.replicate 8 0),w,z] 58 (.ref 0 [i] 58)=some (vw (hs.getD i 0)):=ld8 rfl (by omega)
  have s0:G6 P [A8 hs,A8 (List.replicate 8 0),w,z] 58 (.ref 0 [i] 58) (vw (ad (hs.getD i 0) (v.getD i 0)))=some [A8 (hs.set i (ad (hs.getD i 0) (v.getD i 0))),A8 (List.replicate 8 0),w,z]:=st8 rfl (by omega)
  have a0:AQ .add (vw (hs.getD i 0)) (vw (v.getD i 0))=some (vw (ad (hs.getD i 0) (v.getD i 0))):=Dw _ _
  simp only[KD,O9,PD,PE,b_lss,Option.bind_some,VN,hlt,if_true,ix,ix8 (show i<8 by omega),l0,a0,s0,EG]
  rw[show((i:Int)+1)=((i+1:Nat):Int)by omega,wrap_i64 (by omega) (by omega)]
  exact ih (i+1) _ (by omega) (by simp[hl])
theorem ADu {id:Nat} (j:Nat) (hj:j<8):AZ P 200 (.ref id [] 200) (.int .i64 (j:Int))=some (.ref id [j] 58):=ix8 hj
theorem at8 {B:Type} {h:List V} {id:Nat} {v:List Nat} (hh:h[id]?=some (A8 v)) (hv:v.length=8) (j:Nat) (hj:j<8) (K:V→Option B):
 (AZ P 200 (.ref id [] 200) (.int .i64 (j:Int))).bind (fun a=>(BK h 58 a).bind K)=K (.int .u32 (v.getD j 0:Int)):=by
 rw[ADu j hj,Option.bind_some,ld8 hh (by omega),Option.bind_some];rfl
theorem Nk {B:Type} {h:List V} {id:Nat} {v:List Nat} (hh:h[id]?=some (La v)) (hv:v.length=64) (j:Nat) (hj:j<64) (K:V→Option B):
 (AZ P 210 (.ref id [] 210) (.int .i64 (j:Int))).bind (fun a=>(BK h 58 a).bind K)=K (.int .u32 (v.getD j 0:Int)):=by
 rw[AAG hj,Option.bind_some,ADr hh (by omega),Option.bind_some];rfl
theorem atK {B:Type} {h:List V} (j:Nat) (hj:j<64) (K:V→Option B):
 (AZ P 210 (.rop 210 Jl) (.int .i64 (j:Int))).bind (fun a=>(BK h 58 a).bind K)=K (.int .u32 (DL.getD j 0:Int)):=by
 rw[YD,ixK hj ABy,Option.bind_some,JX,Option.bind_some];rfl
theorem Xk {B:Type} {h:List V} {x:Nat} (hx:x<4294967296) (m:Nat) (h1:1≤m) (h2:m≤31) (K:V×List V→Option B):
 (Cl 150 (AP h [.int .u32 (x:Int),.int .i64 (m:Int)]) []).bind K=K (.int .u32 (EM x m:Int),[]):=by
 rw[ABv hx m h1 h2,Option.bind_some]
theorem AA {A B:Type} {o:Option A} {x:A} (h:o=some x) (K:A→Option B):o.bind K=K x:=by rw[h];rfl
theorem Qd {B:Type} {k:IntKind} {a b:Int} (h:a<b) (K:V→Option B):(AQ .lss (.int k a) (.int k b)).bind K=K (.bool true):=by
 rw[b_lss,Option.bind_some,decide_eq_true h]
theorem UF {B:Type} {k:IntKind} {a b:Int} (h:¬a<b) (K:V→Option B):(AQ .lss (.int k a) (.int k b)).bind K=K (.bool false):=by
 rw[b_lss,Option.bind_some,decide_eq_false h]
theorem EN {B:Type} (a b:Option B):V.ite (.bool true) a b=a:=rfl
theorem Di {B:Type} (a b:Option B):V.ite (.bool false) a b=b:=rfl
theorem Vh {h:List V} {v:List Nat} (hh:h[3]?=some (A8 v)) (hv:v.length=8) (K:V→V→V→V→V→V→Option (V×List V)):
 J8 (.ref 3 [] 200) h K=K (vw (v.getD 0 0)) (vw (v.getD 1 0)) (vw (v.getD 2 0)) (vw (v.getD 4 0)) (vw (v.getD 5 0)) (vw (v.getD 6 0)):=by
 unfold J8
 exact(at8 hh hv 0 (by omega) _).trans<|(at8 hh hv 1 (by omega) _).trans<|(at8 hh hv 2 (by omega) _).trans<|(at8 hh hv 4 (by omega) _).trans<|(at8 hh hv 5 (by omega) _).trans<|(at8 hh hv 6 (by omega) _)
def chE (e f g h7 k w:Nat):Nat:=ad (ad (ad (ad h7 ((EM e 6 ^^^ EM e 11) ^^^ EM e 25)) (g ^^^ (e&&& (f ^^^ g)))) k) w
def mjA (a b c:Nat):Nat:=ad ((EM a 2 ^^^ EM a 13) ^^^ EM a 22) ((a&&& b)|||(c&&& (a|||b)))
theorem Vj {h:List V} {v w:List Nat} {t e f g:Nat} (hh:h[3]?=some (A8 v)) (hv:v.length=8) (hw:h[2]?=some (La w)) (lw:w.length=64) (ht:t<64)
 (be:e<4294967296) (bf:f<4294967296) (bg:g<4294967296) (K:V→Option (V×List V)):
 J9 (.ref 2 [] 210) (.ref 3 [] 200) (.int .i64 (t:Int)) (vw e) (vw f) (vw g) h K=K (vw (chE e f g (v.getD 7 0) (DL.getD t 0) (w.getD t 0))):=by
 have r1:=Bz (n:=6) be;have r2:=Bz (n:=11) be;have r3:=Bz (n:=25) be
 unfold J9
 refine(at8 hh hv 7 (by omega) _).trans ?_
 refine(Xk be 6 (by omega) (by omega) _).trans<|(Xk be 11 (by omega) (by omega) _).trans ?_
 refine(AA (u32_xor r1 r2) _).trans ?_
 refine(Xk be 25 (by omega) (by omega) _).trans ?_
 refine(AA (u32_xor (KI r1 r2) r3) _).trans ?_
 refine(AA (Dw _ _) _).trans ?_
 refine(AA (u32_xor bf bg) _).trans ?_
 refine(AA (u32_and be (KI bf bg)) _).trans ?_
 refine(AA (u32_xor bg (Nh be)) _).trans ?_
 refine(AA (Dw _ _) _).trans ?_
 refine(atK t ht _).trans ?_
 refine(AA (Dw _ _) _).trans ?_
 refine(Nk hw lw t ht _).trans ?_
 exact AA (Dw _ _) _
theorem Vk {h:List V} {a b c:Nat} (ba:a<4294967296) (bb:b<4294967296) (bc:c<4294967296) (K:V→Option (V×List V)):
 KA (vw a) (vw b) (vw c) h K=K (vw (mjA a b c)):=by
 have r1:=Bz (n:=2) ba;have r2:=Bz (n:=13) ba;have r3:=Bz (n:=22) ba
 unfold KA
 refine(Xk ba 2 (by omega) (by omega) _).trans<|(Xk ba 13 (by omega) (by omega) _).trans ?_
 refine(AA (u32_xor r1 r2) _).trans ?_
 refine(Xk ba 22 (by omega) (by omega) _).trans ?_
 refine(AA (u32_xor (KI r1 r2) r3) _).trans ?_
 refine(AA (u32_and ba bb) _).trans ?_
 refine(AA (u32_or ba bb) _).trans ?_
 refine(AA (u32_and bc (AAH ba bb)) _).trans ?_
 refine(AA (u32_or (Nh ba) (Nh bc)) _).trans ?_
 exact AA (Dw _ _) _
theorem ADw (z0 z1 z2 z3 z4 z5 z6 z7:Nat):bld P 200 [(0,.int .u32 (z0:Int)),(1,.int .u32 (z1:Int)),(2,.int .u32 (z2:Int)),(3,.int .u32 (z3:Int)),(4,.int .u32 (z4:Int)),(5,.int .u32 (z5:Int)),(6,.int .u32 (z6:Int)),(7,.int .u32 (z7:Int))]=some (A8 [z0,z1,z2,z3,z4,z5,z6,z7]):=by
 simp[bld,Iu,Qc,Ci,CO,AAE,BO,NZ,cp,ZU,A8,Hg,vw,List.replicate]
theorem Vl {h:List V} {v:List Nat} {a b c e f g x y:Nat} (hh:h[3]?=some (A8 v)) (hv:v.length=8) (K:List V→Option (V×List V)):
 KC (.ref 3 [] 200) (vw a) (vw b) (vw c) (vw e) (vw f) (vw g) (vw x) (vw y) h K=K (h.set 3 (A8 [ad x y,a,b,c,ad (v.getD 3 0) x,e,f,g])):=by
 unfold KC
 refine(AA (Dw _ _) _).trans ?_
 refine(at8 hh hv 3 (by omega) _).trans ?_
 refine(AA (Dw _ _) _).trans ?_
 refine(AA (ADw _ _ _ _ _ _ _ _) _).trans ?_
 exact AA (Fg hh (by simp[CO,Iu,A8]) (by simp only[A8,V.under];exact Dn _ _)) _
theorem AAJ (k w v:List Nat) (t:Nat):ZW k w t v=[ad (chE (v.getD 4 0) (v.getD 5 0) (v.getD 6 0) (v.getD 7 0) (k.getD t 0) (w.getD t 0)) (mjA (v.getD 0 0) (v.getD 1 0) (v.getD 2 0)),v.getD 0 0,v.getD 1 0,v.getD 2 0,
 ad (v.getD 3 0) (chE (v.getD 4 0) (v.getD 5 0) (v.getD 6 0) (v.getD 7 0) (k.getD t 0) (w.getD t 0)),v.getD 4 0,v.getD 5 0,v.getD 6 0]:=rfl
theorem AAK (k w:List Nat) (n t:Nat) (v:List Nat):PS k w (n+1) t v=PS k w n (t+1) (ZW k w t v):=rfl
theorem YF (h w:List Nat) (hh:h.length=8) (hw:w.length=64) (bw:B32 w):∀(n t:Nat) (v:List Nat),t+n=64→B32 v→v.length=8→
 JU (.ref 0 [] 200) (.ref 1 [] 200) (.ref 2 [] 210) (.ref 3 [] 200) (.int .i64 (t:Int)) [A8 h,A8 (List.replicate 8 0),La w,A8 v]=
  some (A8 (Nj (PS DL w n t v) 8 0 h),[]):=by
 intro n
 induction n with
 |zero=>
  intro t v ht bv hv
  rw[KF]
  have:¬((t:Int)<64):=by omega
  have l3:BK [A8 h,A8 (List.replicate 8 0),La w,A8 v] 200 (.ref 3 [] 200)=some (A8 v):=Dj (Gm rfl)
  simp only[J7,O8,b_lss,Option.bind_some,VN,this,if_false,l3,PS]
  exact YE v hv (A8 v) (La w) (A8 v) 8 0 h rfl hh
 |succ n ih=>
  intro t v ht bv hv
  rw[KF]
  have hlt:(t:Int)<64:=by omega
  have ht':t<64:=by omega
  rw[J7,Qd hlt,EN,O6]
  rw[Vh rfl hv,Vj rfl hv rfl hw ht' (bv.get 4) (bv.get 5) (bv.get 6),Vk (bv.get 0) (bv.get 1) (bv.get 2),Vl rfl hv,←AAJ]
  simp only[O7,EG]
  rw[show((t:Int)+1)=((t+1:Nat):Int)by omega,wrap_i64 (by omega) (by omega),AAK]
  have st:[A8 h,A8 (List.replicate 8 0),La w,A8 v].set 3 (A8 (ZW DL w t v))=[A8 h,A8 (List.replicate 8 0),La w,A8 (ZW DL w t v)]:=rfl
  rw[st]
  exact ih (t+1) _ (by omega) (Vg bv t).1 (Vg bv t).2
end
section
open Go AM
theorem Lc {B:Type} {a b:Nat} (h:b≤a) (ha:a<2^62) (K:V→Option B):(AQ .sub (.int .i64 (a:Int)) (.int .i64 (b:Int))).bind K=K (.int .i64 ((a-b:Nat):Int)):=by
 rw[L8,show(a:Int)-(b:Int)=((a-b:Nat):Int)by omega,wrap_i64 (by omega) (by omega)];rfl
theorem Ld {B:Type} {a b:Nat} (h:a+b<2^62) (K:V→Option B):(AQ .add (.int .i64 (a:Int)) (.int .i64 (b:Int))).bind K=K (.int .i64 ((a+b:Nat):Int)):=by
 rw[EG,show(a:Int)+(b:Int)=((a+b:Nat):Int)by omega,wrap_i64 (by omega) (by omega)];rfl
theorem YG {B:Type} {a b:Nat} (h:a*b<2^62) (K:V→Option B):(AQ .mul (.int .i64 (a:Int)) (.int .i64 (b:Int))).bind K=K (.int .i64 ((a*b:Nat):Int)):=by
 rw[VO,←Int.natCast_mul,wrap_i64 (by omega) (by omega)];rfl
theorem ABz {f:Fl} {t s:TypeId} {xs:List V} {a b:Nat} (k:K P s= .slice t) (h1:a≤b) (h2:b≤xs.length):
 LP P s (V.weak (.lst t f xs)) (some (.int .i64 (a:Int))) (some (.int .i64 (b:Int))) none=some (.lst t f.cut ((xs.take b).drop a)):=by
 have e1:(0:Int)≤(b:Int)∧b≤xs.length:=⟨by omega,h2⟩
 have e2:(0:Int)≤(a:Int)∧(a:Int)≤(b:Int):=⟨by omega,by omega⟩
 cases f<;>simp[LP,V.weak,k,BJ,e1,e2,Fl.cut,h1,h2]
section
variable {h:List V} {w:List Nat} {t:Nat}
variable (hw:h[2]?=some (La w)) (lw:w.length=64) (bw:B32 w) (ht:t<64)
include hw lw bw ht
theorem Vm (h16:16≤t) (K:V→Option (V×List V)):
 J4 (.ref 2 [] 210) (.int .i64 (t:Int)) h K=K (vw (sg0 (w.getD (t-15) 0))):=by
 have b:=bw.get (t-15)
 unfold J4
 refine(Lc (b:=15) (by omega) (by omega) _).trans<|(Nk hw lw (t-15) (by omega) _).trans<|(Xk b 7 (by omega) (by omega) _).trans ?_
 refine(Lc (b:=15) (by omega) (by omega) _).trans<|(Nk hw lw (t-15) (by omega) _).trans<|(Xk b 18 (by omega) (by omega) _).trans ?_
 refine(AA (u32_xor (Bz b) (Bz b)) _).trans ?_
 refine(Lc (b:=15) (by omega) (by omega) _).trans<|(Nk hw lw (t-15) (by omega) _).trans ?_
 refine(AA (JY 3 (by omega)) _).trans ?_
 exact AA (u32_xor (KI (Bz b) (Bz b)) (SY _ b)) _
theorem Vo (h16:16≤t) (K:V→Option (V×List V)):
 J5 (.ref 2 [] 210) (.int .i64 (t:Int)) h K=K (vw (sg1 (w.getD (t-2) 0))):=by
 have b:=bw.get (t-2)
 unfold J5
 refine(Lc (b:=2) (by omega) (by omega) _).trans<|(Nk hw lw (t-2) (by omega) _).trans<|(Xk b 17 (by omega) (by omega) _).trans ?_
 refine(Lc (b:=2) (by omega) (by omega) _).trans<|(Nk hw lw (t-2) (by omega) _).trans<|(Xk b 19 (by omega) (by omega) _).trans ?_
 refine(AA (u32_xor (Bz b) (Bz b)) _).trans ?_
 refine(Lc (b:=2) (by omega) (by omega) _).trans<|(Nk hw lw (t-2) (by omega) _).trans ?_
 refine(AA (JY 10 (by omega)) _).trans ?_
 exact AA (u32_xor (KI (Bz b) (Bz b)) (SY _ b)) _
theorem Vp (h16:16≤t) (x y:Nat) (K:List V→Option (V×List V)):
 J6 (.ref 2 [] 210) (.int .i64 (t:Int)) (vw x) (vw y) h K=K (h.set 2 (La (w.set t (ad (ad (ad (w.getD (t-16) 0) (w.getD (t-7) 0)) x) y)))):=by
 unfold J6
 refine(Lc (b:=16) (by omega) (by omega) _).trans<|(Nk hw lw (t-16) (by omega) _).trans ?_
 refine(Lc (b:=7) (by omega) (by omega) _).trans<|(Nk hw lw (t-7) (by omega) _).trans ?_
 refine(AA (Dw _ _) _).trans ?_
 refine(AA (Dw _ _) _).trans ?_
 refine(AA (Dw _ _) _).trans ?_
 refine(AA (AAG ht) _).trans ?_
 exact AA (ABx hw (by omega)) _
end
theorem YH (n t:Nat) (w:List Nat):MG (n+1) t w=MG n (t+1) (w.set t (ad (ad (ad (w.getD (t-16) 0) (w.getD (t-7) 0)) (sg0 (w.getD (t-15) 0))) (sg1 (w.getD (t-2) 0)))):=rfl
theorem YI (p:List UInt8) (n t:Nat) (w:List Nat):PO p (n+1) t w=PO p n (t+1) (w.set t (wordAt p t)):=rfl
theorem YJ (h:List Nat) (hh:h.length=8) (bh:B32 h):∀(n t:Nat) (w:List Nat),t+n=64→16≤t→B32 w→w.length=64→
 JS (.ref 0 [] 200) (.ref 1 [] 200) (.ref 2 [] 210) (.int .i64 (t:Int)) [A8 h,A8 (List.replicate 8 0),La w]=
  some (A8 (Nj (PS DL (MG n t w) 64 0 h) 8 0 h),[]):=by
 intro n
 induction n with
 |zero=>
  intro t w ht h16 bw lw
  rw[KG,NY,UF (by omega),Di,O5]
  have z:zero P 200=A8 (List.replicate 8 0):=by rw[Qc];rfl
  have l0:BK [A8 h,A8 (List.replicate 8 0),La w] 200 (.ref 0 [] 200)=some (A8 h):=Dj (Gm rfl)
  rw[l0,z]
  refine(AA (Fg (h:=[A8 h,A8 (List.replicate 8 0),La w]++[A8 (List.replicate 8 0)]) rfl (by simp[CO,Iu,A8]) (by simp only[A8,V.under];exact Dn _ _)) _).trans ?_
  exact YF h w hh lw bw 64 0 h rfl bh hh
 |succ n ih=>
  intro t w ht h16 bw lw
  rw[KG,NY,Qd (by omega),EN,Vm rfl lw bw (by omega) h16,Vo rfl lw bw (by omega) h16,Vp rfl lw bw (by omega) h16,O4,YH]
  refine(Ld (b:=1) (by omega) _).trans ?_
  exact ih (t+1) _ (by omega) (by omega) (bw.set t (Vf _ _)) (by simp[lw])
theorem YK (h:List Nat) (hh:h.length=8) (bh:B32 h) (p:List UInt8) (hp:p.length=64) (f:Fl):∀(n t:Nat) (w:List Nat),t+n=16→B32 w→w.length=64→
 JR (.lst 5 f (bytesOf p)) (.ref 0 [] 200) (.ref 1 [] 200) (.ref 2 [] 210) (.int .i64 (t:Int)) [A8 h,A8 (List.replicate 8 0),La w]=
  some (A8 (Nj (PS DL (MG 48 16 (PO p n t w)) 64 0 h) 8 0 h),[]):=by
 intro n
 induction n with
 |zero=>
  intro t w ht bw lw
  rw[KH,NV,UF (by omega),Di,SK]
  exact YJ h hh bh 48 16 w rfl (by omega) bw lw
 |succ n ih=>
  intro t w ht bw lw
  rw[KH,NV,Qd (by omega),EN,SG,SH]
  refine(YG (a:=4) (by omega) _).trans<|(YG (a:=4) (by omega) _).trans<|(Ld (b:=4) (by omega) _).trans ?_
  refine(AA (ABz (f:=f) (t:=5) (xs:=bytesOf p) EU (a:=4*t) (b:=4*t+4) (by omega) (by simp[bytesOf];omega)) _).trans ?_
  rw[YC (by omega) (by omega) rfl lw,SI,YI]
  refine(Ld (b:=1) (by omega) _).trans ?_
  exact ih (t+1) _ (by omega) (bw.set t (UE p t)) (by simp[lw])
theorem YL {h:List Nat} (hh:h.length=8) (bh:B32 h) {p:List UInt8} (hp:p.length=64) (f:Fl):
 Cl 141 [A8 h,.lst 5 f (bytesOf p)] []=some (A8 (PU h p),[]):=by
 have tk:(CO P 200 (A8 h)&&V.under (List.length ([]:List V)) (A8 h))=true:=by
  simp only[A8,V.under,Dn,CO,Iu];simp
 rw[X5,SB,if_pos tk,SC,SE,Qc,AAF]
 have z32:B32 (List.replicate 64 0):=fun x hx=>by rw[List.eq_of_mem_replicate hx];decide
 exact YK h hh bh p hp f 16 0 (List.replicate 64 0) rfl z32 rfl
end
end Go.Proofs.YtkelgdjhpgefnaaGreatDoor
