/-
  Part of the proof of a statement about the given program: an abstract machine over its code, the simulation, its functions' equations, what they compute.
-/
import Derived.Sort.LotD1
import Derived.Test.YtaghnpjlhmgioaaDoorMg12
import Derived.Test.YtaghnpjlhmgioaaDoorMg5
set_option linter.unusedVariables false
set_option linter.unusedSimpArgs false
set_option linter.unusedSectionVars false
set_option maxRecDepth 100000
noncomputable section
namespace Go.Proofs.YtaghnpjlhmgioaaDoor
section
open Go AM
namespace Ed
theorem Nu {n k:Nat} (h:2^k≤n):Sort.bitsLen n=Sort.bitsLen (n/2^k)+k:=by
 have key:∀m,Sort.bitsLen n≤m↔Sort.bitsLen (n/2^k)+k≤m:=by
  intro m
  by_cases hm:k≤m
  ·rw[Sort.bitsLen_le_iff,show(Sort.bitsLen (n/2^k)+k≤m↔Sort.bitsLen (n/2^k)≤m-k)by omega,Sort.bitsLen_le_iff,Nat.div_lt_iff_lt_mul (Nat.pow_pos (by decide)),←Nat.pow_add,show m-k+k=m by omega]
  ·constructor
   ·intro h1
    have h2:=(Sort.bitsLen_le_iff n m).1 h1
    have:2^m≤2^k:=Nat.pow_le_pow_right (by decide) (by omega)
    omega
   ·intro h1;omega
 have a:=(key (Sort.bitsLen n)).1 (Nat.le_refl _)
 have b:=(key (Sort.bitsLen (n/2^k)+k)).2 (Nat.le_refl _)
 omega
def AF4:List UInt8:=[0,1,2,2,3,3,3,3,4,4,4,4,4,4,4,4,5,5,5,5,5,5,5,5,5,5,5,5,5,5,5,5,6,6,6,6,6,6,6,6,6,6,6,6,6,6,6,6,6,6,6,6,6,6,6,6,6,6,6,6,6,6,6,6,7,7,7,7,7,7,7,7,7,7,7,7,7,7,7,7,7,7,7,7,7,7,7,7,7,7,7,7,7,7,7,7,7,7,7,7,7,7,7,7,7,7,7,7,7,7,7,7,7,7,7,7,7,7,7,7,7,7,7,7,7,7,7,7,8,8,8,8,8,8,8,8,8,8,8,8,8,8,8,8,8,8,8,8,8,8,8,8,8,8,8,8,8,8,8,8,8,8,8,8,8,8,8,8,8,8,8,8,8,8,8,8,8,8,8,8,8,8,8,8,8,8,8,8,8,8,8,8,8,8,8,8,8,8,8,8,8,8,8,8,8,8,8,8,8,8,8,8,8,8,8,8,8,8,8,8,8,8,8,8,8,8,8,8,8,8,8,8,8,8,8,8,8,8,8,8,8,8,8,8,8,8,8,8,8,8,8,8,8,8,8,8]
theorem ADY {x:Nat} (hx:x<256):AF4[x]?=some (UInt8.ofNat (Sort.bitsLen x)):=by
 have h:∀x:Fin 256,AF4[x.val]?=some (UInt8.ofNat (Sort.bitsLen x.val)):=by decide+kernel
 exact h ⟨x,hx⟩
theorem bl8 {x:Nat} (hx:x<256):Sort.bitsLen x≤8:=(Sort.bitsLen_le_iff x 8).2 hx
theorem Xv {B:Type} {a:Nat} (k:Nat) (hk:k≤64) (K:V→Option B):(AL .shr (.int .u64 (a:Int)) (.int .u64 (k:Int))).bind K=K (.int .u64 ((a/2^k:Nat):Int)):=by
 refine AB ?_ K
 rw[AHE _ _ _ _ (by omega)]
 have:min ((k:Int)).toNat (IntKind.u64).bits=k:=by simp[IntKind.bits];omega
 rw[this,ABe]
theorem ABk {B:Type} {a:Nat} {k':IntKind} (k:Nat) (hk:k≤64) (K:V→Option B):(AL .shl (.int .u64 (a:Int)) (.int k' (k:Int))).bind K=K (.int .u64 ((a*2^k%18446744073709551616:Nat):Int)):=by
 refine AB ?_ K
 rw[AHD _ _ _ _ (by omega)]
 have:min ((k:Int)).toNat (IntKind.u64).bits=k:=by simp[IntKind.bits];omega
 rw[this]
 have e:((a:Int)*2^k)=((a*2^k:Nat):Int):=by push_cast;rfl
 rw[e,TT]
theorem ABl {n:Nat} (hn:n<18446744073709551616):Cl 66 [.int .u64 (n:Int)] []=some (iv (Sort.bitsLen n),[]):=by
 have last:∀x m:Nat,x<256→m≤64→(Jy (.int .u64 (x:Int)) (.int .i64 (m:Int)) fun t=>AY 0 [] t)=some (iv (Sort.bitsLen x+m),[]):=by
  intro x m hx hm
  have b8:=bl8 hx
  rw[Jy]
  refine(cv8 _).trans ?_
  rw[Nat.mod_eq_of_lt hx]
  refine(AB (ADK AEf (s:=AF4) (ADY hx)) _).trans ?_
  refine(AB (Fv ABY ..) _).trans ?_
  rw[show(UInt8.ofNat (Sort.bitsLen x)).toNat=Sort.bitsLen x by simp;omega,Ad (by omega) (by omega)]
  refine(Bd (by omega) _).trans ?_
  rw[Ij,Nat.add_comm];rfl
 have st3:∀x m:Nat,x<65536→m≤48→(TQ (.int .u64 (x:Int)) fun t14_8=>
  jn (fun t0_9 t2_10=>Jy t0_9 t2_10 fun t2_11=>AY 0 [] t2_11)
  (fun(j2:V→V→Option (V×List V))=>V.ite t14_8
   (TR (.int .u64 (x:Int)) fun t0_12=>TS (.int .i64 (m:Int)) fun t2_13=>j2 t0_12 t2_13)
   (j2 (.int .u64 (x:Int)) (.int .i64 (m:Int)))))=some (iv (Sort.bitsLen x+m),[]):=by
  intro x m hx hm
  rw[TQ]
  by_cases h:256≤x
  ·refine(J4 (by omega) _).trans ?_
   simp only[jn]
   rw[Ak,TR]
   refine(Xv 8 (by omega) _).trans ?_
   rw[TS]
   refine(Bd (b:=8) (by omega) _).trans ?_
   refine(last _ _ (by omega) (by omega)).trans ?_
   rw[Nu (k:=8) h,Nat.add_assoc,Nat.add_comm 8 m]
  ·refine(Kz (by omega) _).trans ?_
   simp only[jn]
   rw[AV]
   exact last x m (by omega) (by omega)
 have Fj:∀x m:Nat,x<4294967296→m≤32→(WC (.int .u64 (x:Int)) fun t8_5=>
  jn (fun t0_6 t2_7=>TQ t0_6 fun t14_8=>
  jn (fun t0_9 t2_10=>Jy t0_9 t2_10 fun t2_11=>AY 0 [] t2_11)
  (fun(j2:V→V→Option (V×List V))=>V.ite t14_8
   (TR t0_6 fun t0_12=>TS t2_7 fun t2_13=>j2 t0_12 t2_13)
   (j2 t0_6 t2_7)))
  (fun(j1:V→V→Option (V×List V))=>V.ite t8_5
   (WE (.int .u64 (x:Int)) fun t0_14=>WH (.int .i64 (m:Int)) fun t2_15=>j1 t0_14 t2_15)
   (j1 (.int .u64 (x:Int)) (.int .i64 (m:Int)))))=some (iv (Sort.bitsLen x+m),[]):=by
  intro x m hx hm
  rw[WC]
  by_cases h:65536≤x
  ·refine(J4 (by omega) _).trans ?_
   rw[jn,Ak,WE]
   refine(Xv 16 (by omega) _).trans ?_
   rw[WH]
   refine(Bd (b:=16) (by omega) _).trans ?_
   refine(st3 _ _ (by omega) (by omega)).trans ?_
   rw[Nu (k:=16) h,Nat.add_assoc,Nat.add_comm 16 m]
  ·refine(Kz (by omega) _).trans ?_
   rw[jn,AV]
   exact st3 x m (by omega) (by omega)
 rw[AFZ,AA7,AA8]
 by_cases h:4294967296≤n
 ·refine(J4 (by omega) _).trans ?_
  rw[jn,Ak,AA9]
  refine(Xv 32 (by omega) _).trans ?_
  rw[ABA]
  refine(Fj _ 32 (by omega) (by omega)).trans ?_
  rw[Nu (n:=n) (k:=32) h]
 ·refine(Kz (by omega) _).trans ?_
  rw[jn,AV]
  exact Fj n 0 (by omega) (by omega)
theorem ABm {n:Nat} (hn:n<18446744073709551616):Cl 51 [.int .u64 (n:Int)] []=some (iv (Sort.bitsLen n),[]):=by
 rw[AFP,AAI,AV,AAJ]
 refine(AB (ABl hn) _).trans ?_
 rfl
theorem AF5 {n:Nat} (hn:n<4611686018427387904):Cl 81 [iv n] []=some (.int .u64 ((2^Sort.bitsLen n:Nat):Int),[]):=by
 have hb:Sort.bitsLen n≤62:=(Sort.bitsLen_le_iff n 62).2 (by omega)
 have hp:2^Sort.bitsLen n≤2^62:=Nat.pow_le_pow_right (by decide) hb
 rw[AFf,ABE,ABF]
 refine(AB (Fv ABZ ..) _).trans ?_
 rw[ET (by omega) (by omega)]
 refine(AB (ABm (by omega)) _).trans ?_
 refine(ABk (a:=1) _ (by omega) _).trans ?_
 rw[Ij,Nat.one_mul,Nat.mod_eq_of_lt (by omega)];rfl
theorem Tf {B:Type} {a b:Nat} (ha:a<18446744073709551616) (hb:b<18446744073709551616) (K:V→Option B):(AL .xor (.int .u64 (a:Int)) (.int .u64 (b:Int))).bind K=K (.int .u64 ((a ^^^ b:Nat):Int)):=
 AB (ADJ ha hb) K
def xv (x:UInt64):V:= .int .u64 (x.toNat:Int)
def rX (id:Nat):V:= .ref id [] 103
theorem tyX (x:UInt64):Ee P 103 (xv x)=true:=by simp[Ee,AHB,Bv,Xm,xv]
theorem xl (x:UInt64) (k:Nat) (hk:k<64):x.toNat*2^k%18446744073709551616=(x <<< (UInt64.ofNat k)).toNat:=by
 rw[UInt64.toNat_shiftLeft,Nat.shiftLeft_eq]
 simp[Nat.mod_eq_of_lt hk,Nat.mod_eq_of_lt (show k<18446744073709551616 by omega)]
theorem xr (x:UInt64) (k:Nat) (hk:k<64):x.toNat/2^k=(x >>> (UInt64.ofNat k)).toNat:=by
 rw[UInt64.toNat_shiftRight,Nat.shiftRight_eq_div_pow]
 simp[Nat.mod_eq_of_lt hk,Nat.mod_eq_of_lt (show k<18446744073709551616 by omega)]
theorem ADZ {h:List V} {id:Nat} {x:UInt64} (hh:h[id]?=some (xv x)):Cl 82 [rX id] h=some (xv (Sort.xorNext x),h.set id (xv (Sort.xorNext x))):=by
 have l:∀x:UInt64,x.toNat<18446744073709551616:=fun x=>UInt64.toNat_lt x
 have nn:∀K:V→Option (V×List V),(CP (rX id)).bind K=K (rX id):=fun K=>rfl
 have ld:∀{h:List V} {x:UInt64} (hh:h[id]?=some (xv x)) (K:V→Option (V×List V)),(A8 h 103 (rX id)).bind K=K (xv x):=fun hh K=>AB (Md (WO hh)) K
 have st:∀{h:List V} {x:UInt64} (y:UInt64) (hh:h[id]?=some (xv x)) (K:List V→Option (V×List V)),(EY P h 103 (rX id) (xv y)).bind K=K (h.set id (xv y)):=fun y hh K=>AB (TU hh (tyX y) rfl) K
 rw[AFg,ABG,ABH]
 refine(nn _).trans<|(ld hh _).trans<|(nn _).trans<|(ld hh _).trans<|(ABk (k':= .u64) 13 (by omega) _).trans ?_
 rw[xl x 13 (by omega)]
 refine(Tf (l _) (l _) _).trans<|(nn _).trans ?_
 rw[←UInt64.toNat_xor]
 refine(st _ hh _).trans ?_
 generalize hx1:x ^^^ x <<< UInt64.ofNat 13=x1
 have h1:=Ii (xv x1) hh
 rw[ABJ]
 refine(nn _).trans<|(ld h1 _).trans<|(nn _).trans<|(ld h1 _).trans<|(Xv 7 (by omega) _).trans ?_
 rw[xr x1 7 (by omega)]
 refine(Tf (l _) (l _) _).trans<|(nn _).trans ?_
 rw[←UInt64.toNat_xor]
 refine(st _ h1 _).trans ?_
 generalize hx2:x1 ^^^ x1 >>> UInt64.ofNat 7=x2
 have h2:=Ii (xv x2) h1
 rw[ABK]
 refine(nn _).trans<|(ld h2 _).trans<|(nn _).trans<|(ld h2 _).trans<|(ABk (k':= .u64) 17 (by omega) _).trans ?_
 rw[xl x2 17 (by omega)]
 refine(Tf (l _) (l _) _).trans<|(nn _).trans ?_
 rw[←UInt64.toNat_xor]
 refine(st _ h2 _).trans ?_
 generalize hx3:x2 ^^^ x2 <<< UInt64.ofNat 17=x3
 have h3:=Ii (xv x3) h2
 rw[ABL]
 refine(nn _).trans<|(ld h3 _).trans ?_
 have e:Sort.xorNext x=x3:=by rw[←hx3,←hx2,←hx1];rfl
 rw[e]
 refine(Ij _ _ _ _).trans ?_
 rw[List.take_of_length_le (by simp),List.set_set,List.set_set];rfl
section
variable {h0:List V} {id N:Nat} (hid:id<h0.length) (hb62:N<1000000000000000000)
include hid hb62
theorem Ti (a len idx:Nat) (ha:a+len≤N) (hidx:idx<N) (hle:idx≤a+len/4*2+1) {d:Array Edg} {x:UInt64} (hN:N=d.size) (hl:8≤len):
 JZ (winM id N) (iv a) (iv len) (rX h0.length) (.int .u64 ((2^Sort.bitsLen len:Nat):Int)) (iv idx) h0.length (HB h0 id d++[xv x])=
  JZ (winM id N) (iv a) (iv len) (rX h0.length) (.int .u64 ((2^Sort.bitsLen len:Nat):Int)) (iv (idx+1)) h0.length
   (HB h0 id (Sort.breakStep a len (2^Sort.bitsLen len) (x,d) idx).2++[xv (Sort.breakStep a len (2^Sort.bitsLen len) (x,d) idx).1])∧
 N=(Sort.breakStep a len (2^Sort.bitsLen len) (x,d) idx).2.size:=by
 have hne:h0.length≠id:=by omega
 have hd:∀(d:Array Edg) (x:V),(HB h0 id d++[x])[id]?=some (rowM d):=fun d x=>Xo _ (Nr hid d)
 have hs:∀x:V,(HB h0 id d++[x])[h0.length]?=some x:=fun x=>by
  have:=Nh (HB h0 id d) x;rw[CB]at this;exact this
 have st:∀x y:V,(HB h0 id d++[x]).set h0.length y=HB h0 id d++[y]:=fun x y=>by
  have:=Nk (HB h0 id d) x y;rw[CB]at this;exact this
 have hb:Sort.bitsLen len≤62:=(Sort.bitsLen_le_iff len 62).2 (by omega)
 have hp:2^Sort.bitsLen len≤2^62:=Nat.pow_le_pow_right (by decide) hb
 have hp0:1≤2^Sort.bitsLen len:=Nat.pow_pos (by decide)
 have hp2:2^Sort.bitsLen len≤2*len:=by
  have h1:¬Sort.bitsLen len≤Sort.bitsLen len-1:=by
   intro h
   have h0:Sort.bitsLen len=0:=by omega
   have:=(Sort.bitsLen_le_iff len 0).1 (by omega)
   omega
  rw[Sort.bitsLen_le_iff]at h1
  have e:2^Sort.bitsLen len=2^(Sort.bitsLen len-1)*2:=by
   rw[←Nat.pow_succ]
   congr 1
   have:Sort.bitsLen len≠0:=by
    intro h0
    have:=(Sort.bitsLen_le_iff len 0).1 (by omega)
    omega
   omega
  omega
 refine⟨?_,by rw[Sort.breakStep];simp only[];rw[BL];exact hN⟩
 rw[QB,Vs]
 refine(AB (Ls _ _ _ (by omega)) _).trans ?_
 rw[show(len:Int).tdiv 4=((len/4:Nat):Int)by rfl,Ad (by omega) (by omega)]
 refine(YZ (b:=2) (by omega) _).trans<|(Bd (by omega) _).trans<|(Bd (b:=1) (by omega) _).trans<|(Uh (by omega) _).trans ?_
 rw[Ak,AAb]
 refine(AB (ADZ (hs (xv x))) _).trans ?_
 refine(AHm (b:=1) hp0 (by omega) _).trans ?_
 have hr:=UInt64.toNat_lt (Sort.xorNext x)
 have hand:(Sort.xorNext x).toNat&&& (2^Sort.bitsLen len-1)≤2^Sort.bitsLen len-1:=Nat.and_le_right
 rw[st,Sort.breakStep]
 simp only[]
 refine(AB (ADI hr (by omega)) _).trans ?_
 generalize (Sort.xorNext x).toNat&&& (2^Sort.bitsLen len-1)=o at*
 refine(AB (Fv ABY ..) _).trans ?_
 rw[Ad (by omega) (by omega),AAc]
 have hd':∀h,(HB h0 id d++[h])[id]?=some (rowM d):=fun h=>hd d h
 have tail:∀o:Nat,o<len→(SB (winM id N) (iv a) (iv idx) (iv o) (HB h0 id d++[xv (Sort.xorNext x)]) fun h_12=>
  Vt (iv idx) fun t11_13=>
  JZ (winM id N) (iv a) (iv len) (rX h0.length) (.int .u64 ((2^Sort.bitsLen len:Nat):Int)) t11_13 h0.length h_12)=
  JZ (winM id N) (iv a) (iv len) (rX h0.length) (.int .u64 ((2^Sort.bitsLen len:Nat):Int)) (iv (idx+1)) h0.length (HB h0 id (Sort.swp d idx (a+o))++[xv (Sort.xorNext x)]):=by
  intro o ho
  rw[SB]
  refine(Bd (by omega) _).trans<|(Bd (by omega) _).trans ?_
  refine(AJv (hd d _) hN hidx (by omega) _).trans ?_
  rw[Vt]
  refine(Bd (b:=1) (by omega) _).trans ?_
  rw[ADN _ _ (by rw[CB];exact hid),WQ]<;>rfl
 by_cases ho:o≥len
 ·refine(J4 (by omega) _).trans ?_
  simp only[jn]
  rw[Ak,AAd,if_pos ho]
  refine(Bj (by omega) (by omega) _).trans ?_
  exact tail (o-len) (by omega)
 ·refine(Kz (by omega) _).trans ?_
  simp only[jn]
  rw[AV,if_neg ho]
  exact tail o (by omega)
theorem ABn {d:Array Edg} {a b:Nat} (hN:N=d.size) (hb:b≤N) (ha:a<b):
 Cl 59 [winM id N,iv a,iv b,cm] (HB h0 id d)=some (.tup [],HB h0 id (Sort.breakPatterns d a b)):=by
 rw[AFT,AAW]
 refine(Bj (by omega) (by omega) _).trans ?_
 rw[AAX,Sort.breakPatterns]
 simp only[]
 by_cases h8:b-a≥8
 ·refine(J4 (by omega) _).trans ?_
  rw[Ak,AAY,if_pos h8]
  refine(AB (Fv Xm ..) _).trans ?_
  have xe:(V.int .u64 ((b-a:Nat):Int))=xv (UInt64.ofNat (b-a)):=by
   rw[xv];congr 2;simp;omega
  rw[ET (by omega) (by omega),xe]
  refine(AB (TU (P:=P) (h:=HB h0 id d++[zero P 103]) (id:=(HB h0 id d).length) (Nh _ _) (tyX _) rfl) _).trans ?_
  rw[Nk,AAZ]
  have e1:AZ (HB h0 id d++[xv (UInt64.ofNat (b-a))]) [iv (b-a)]=[iv (b-a)]:=rfl
  refine(AB (AF5 (n:=b-a) (by omega)) _).trans ?_
  rw[AAa]
  refine(AB (Ls _ _ _ (by omega)) _).trans ?_
  rw[show((b-a:Nat):Int).tdiv 4=(((b-a)/4:Nat):Int)by rfl,Ad (by omega) (by omega)]
  refine(YZ (b:=2) (by omega) _).trans<|(Bd (by omega) _).trans<|(Bj (b:=1) (by omega) (by omega) _).trans ?_
  rw[CB]
  have z1:=Ti hid hb62 a (b-a) (a+(b-a)/4*2-1) (by omega) (by omega) (by omega) (x:=UInt64.ofNat (b-a)) hN h8
  refine z1.1.trans ?_
  generalize hs1:Sort.breakStep a (b-a) (2^Sort.bitsLen (b-a)) (UInt64.ofNat (b-a),d) (a+(b-a)/4*2-1)=s1 at*
  have z2:=Ti hid hb62 a (b-a) (a+(b-a)/4*2-1+1) (by omega) (by omega) (by omega) (x:=s1.1) z1.2 h8
  refine z2.1.trans ?_
  generalize hs2:Sort.breakStep a (b-a) (2^Sort.bitsLen (b-a)) (s1.1,s1.2) (a+(b-a)/4*2-1+1)=s2 at*
  have z3:=Ti hid hb62 a (b-a) (a+(b-a)/4*2-1+1+1) (by omega) (by omega) (by omega) (x:=s2.1) z2.2 h8
  refine z3.1.trans ?_
  generalize hs3:Sort.breakStep a (b-a) (2^Sort.bitsLen (b-a)) (s2.1,s2.2) (a+(b-a)/4*2-1+1+1)=s3 at*
  rw[QB,Vs]
  refine(AB (Ls _ _ _ (by omega)) _).trans ?_
  rw[show((b-a:Nat):Int).tdiv 4=(((b-a)/4:Nat):Int)by rfl,Ad (by omega) (by omega)]
  refine(YZ (b:=2) (by omega) _).trans<|(Bd (by omega) _).trans<|(Bd (b:=1) (by omega) _).trans<|(Ja (by omega) _).trans ?_
  rw[AV,AHn]
  have tk:(HB h0 id s3.2++[xv s3.1]).take h0.length=HB h0 id s3.2:=by
   have:=Jz (HB h0 id s3.2) [xv s3.1];rw[CB]at this;exact this
  rw[tk,Nat.one_shiftLeft,hs1]
  rw[show s1=(s1.1,s1.2)from rfl,hs2,show s2=(s2.1,s2.2)from rfl,hs3]
 ·refine(Kz (by omega) _).trans ?_
  rw[AV,if_neg h8,CB,Ea]
end
end Ed
end
end Go.Proofs.YtaghnpjlhmgioaaDoor
