/-
  Part of the proof of a statement about the given program: an abstract machine over its code, the simulation, its functions' equations, what they compute.
-/
import Derived.Lib.AtoiAll
import Derived.Lib.BitFns
import Derived.Lib.Bytealg
import Derived.Sort.Defs
import Derived.Test.YtkelgdjhpgefnaaGreatDoorMg1
set_option linter.unusedVariables false
set_option linter.unusedSimpArgs false
set_option linter.unusedSectionVars false
noncomputable section
namespace Go.Proofs.YtkelgdjhpgefnaaGreatDoor
section
namespace AM
open Go
section
variable (P:Program) (A:Ann) (O:Orc)
def V.capOk:V→Bool
 | .agg _ _=>false
 | .row _ _=>false
 | .tup _=>false
 | .undef=>false
 |_=>true
def isFn:Operand→Bool
 | .func _=>true
 |_=>false
def isNil (t:TypeId) (y:Operand):Bool:=match y,P.underlying t with| .const .nilIface,some (.interface _)=>true|_,_=>false
def Zo (op:BinOp) (x:V):Option V:=match op,x with| .eql,.nili=>some (.bool true)| .neq,.nili=>some (.bool false)| .eql,.ifv=>some (.bool false)| .neq,.ifv=>some (.bool true)|_,_=>none
def QS (t:TypeId) (y:Operand):Bool:=match y,P.underlying t with| .const (.pointer none),some (.pointer _)=>true|_,_=>false
def Zp (op:BinOp) (x:V):Option V:=match op,x with| .eql,.nilp=>some (.bool true)| .neq,.nilp=>some (.bool false)| .eql,.ref _ _ _=>some (.bool false)| .neq,.ref _ _ _=>some (.bool true)| .eql,.rop _ _=>some (.bool false)| .neq,.rop _ _=>some (.bool true)|_,_=>none
def pureOp (st:St) (o:Oper):Option V:=
 match o.op with
 | .nilCheck x=>IG (st.ev P A 0 x)
 | .binOp op t x y u=>if isT P t then Zn P t op (st.ev P A t x) (st.ev P A u y)else if isNil P t y then Zo op (st.ev P A t x)else if QS P t y then Zp op (st.ev P A t x)else AO op (st.ev P A t x) (st.ev P A u y)
 | .unOp op t x=>un op (st.ev P A t x)
 | .convert s d x=>conv P st.h s d (st.ev P A s x)
 | .makeFunc (.func f) first caps=>if first.isEmpty then(if(caps.toList.map (st.ev P A 0)).all V.capOk then some (.clo f (caps.toList.map (st.ev P A 0)))else none)else none
 | .makeSlice t l c=>mkS P t (st.ev P A 0 l) (st.ev P A 0 c)
 | .slice t x lo hi mx=>LD P t (st.ev P A t x) (lo.map (st.ev P A 0)) (hi.map (st.ev P A 0)) (mx.map (st.ev P A 0))
 | .fieldAddr s x f=>NG P s f (st.ev P A 0 x)
 | .field t x f=>QR P t f (st.ev P A t x)
 | .indexAddr t x i=>AZ P t (st.ev P A t x) (st.ev P A 0 i)
 | .index t x i=>II P t (st.ev P A t x) (st.ev P A 0 i)
 | .extract x i=>if BF P depth o.type then TT (st.ev P A 0 x) i else ext (st.ev P A 0 x) i
 | .load t a=>if BF P depth t then GH st.h t (st.ev P A 0 a)else BI st.h t (st.ev P A 0 a)
 | .build t ps=>bld P t (ps.toList.map fun(i,x)=>(i,st.ev P A (match K P t with| .struct _ fs=>fs.getD i 0| .array _ _ e=>e|_=>0) x))
 | .buildSlice t n ps=>JD P t n (ps.toList.map fun(i,x)=>(i,st.ev P A (Dc P t) x))
 | .call {callee:= .builtin .len,args,argTypes}=>match args[0]?,argTypes[0]? with
   |some x,some t=>lenV P t (st.ev P A t x)
   |_,_=>none
 | .call {callee:= .builtin .min,args,argTypes}=>match args.toList with
   |[x,y]=>Xf (st.ev P A (argTypes.getD 0 0) x) (st.ev P A (argTypes.getD 1 0) y)
   |_=>none
 | .call {callee:= .builtin .max,args,argTypes}=>match args.toList with
   |[x,y]=>Xg (st.ev P A (argTypes.getD 0 0) x) (st.ev P A (argTypes.getD 1 0) y)
   |_=>none
 | .call {callee:= .builtin .append,args,argTypes}=>match args.toList with
   |[x,y]=>Ea P (argTypes.getD 0 0) st.h (st.ev P A (argTypes.getD 0 0) x) (st.ev P A (argTypes.getD 1 0) y)
   |_=>none
 |_=>none
def St.give (st:St) (x:Operand):St:=
 match x with
 | .tmp i=>{st with s:=insert i (st.get i).weak st.s}
 |_=>st
def args (st:St) (c:Call):List V:=(c.args.toList.zip c.argTypes.toList).map fun(x,t)=>st.ev P A t x
def Zq (j:Nat) (s:List UInt8) (c:Int):Int:=if j=1 then Lib.indexByte s c.toNat.toUInt8 else(Lib.countByte s c.toNat.toUInt8:Int)
def Xc {R:Type} (j:Nat) (f:FuncId) (vs:List V) (h:List V) (k:V→List V→Option R):Option R:=
 match vs with
 |[.str s,.int .u8 c]=>if j≠0 then k (.int .i64 (Zq j s c)) h else none
 |[.int .i64 n]=>
  let e:=Dc P (match P.funcs[f]? with|some fn=>fn.resultTypes.getD 0 0|none=>0)
  if j=0∧0≤n∧n≤DF then k (.win h.length [] 0 n.toNat e) (h++[.row e (List.replicate n.toNat .undef)])else none
 |_=>none
def i3:V→Bool
 | .agg _ [.int .i64 _,.int .i64 _,.int .i64 _]=>true
 |_=>false
def U1 (s:List UInt8):V:=match Lib.atoiAll s with
 | .ok v=> .tup [.int .i64 v,.nili]
 | .range => .tup [.int .i64 (Lib.atoiSat s),.ifv]
 | _ => .tup [.int .i64 0,.ifv]
def Zr:Nat→Nat→List UInt8
 |0,_=>[]
 |f+1,n=>if n<10 then[UInt8.ofNat (48+n)]else Zr f (n/10)++[UInt8.ofNat (48+n%10)]
def U2 (n:Int):List UInt8:=if n<0 then 45::Zr 20 n.natAbs else Zr 20 n.toNat
def t3:V→Int×Int×Int
 | .agg _ [.int .i64 a,.int .i64 b,.int .i64 c]=>(a,b,c)
 |_=>(0,0,0)
def Uz (u:TypeId) (z:Int×Int×Int):V:= .agg u [.int .i64 z.1,.int .i64 z.2.1,.int .i64 z.2.2]
def i3t (u:TypeId):V→Bool
 | .agg t [.int .i64 _,.int .i64 _,.int .i64 _]=>Nat.beq t u
 |_=>false
def U3:List V→TypeId
 | .agg u _::_=>u
 |_=>0
def N9 (k:Nat) (z:Int×Int×Int):Bool:= !Nat.beq k 1||(decide (-2305843009213693952≤z.1)&&decide (z.1≤2305843009213693952)&&decide (-2305843009213693952≤z.2.1)&&decide (z.2.1≤2305843009213693952))
def ZK (k:Nat) (z:Int×Int×Int):Int×Int×Int:=if N9 k z=true then z else(0,0,0)
def U4 (a b:Int):Int:=if a<b then -1 else if b<a then 1 else 0
def OA (a b:Int):Int:=if a=0 then b else a
def cf3 (k:Nat) (x y:Int×Int×Int):Int:=if Nat.beq k 1=true then(if x.1=y.1 then x.2.1-y.2.1 else x.1-y.1)else OA (U4 x.2.1 y.2.1) (OA (U4 x.1 y.1) (U4 x.2.2 y.2.2))
def TU (k:Nat) (x y:Int×Int×Int):Int:=cf3 k (ZK k x) (ZK k y)
def OC (k:Nat) (zs:List (Int×Int×Int)):List (Int×Int×Int):=(Sort.pdq (fun x y=>decide (TU k x y<0)) zs.toArray 0 zs.length (Lib.bitLen zs.length) true true).toList
def Xh (k:Nat) (z:Int×Int×Int):List (Int×Int×Int)→List (Int×Int×Int)
 |[]=>[z]
 |y::l=>if decide (TU k z y<0)=true then z::y::l else y::Xh k z l
def Le (k:Nat):List (Int×Int×Int)→List (Int×Int×Int)
 |[]=>[]
 |z::l=>Xh k z (Le k l)
def str3 (k:Nat):List (Int×Int×Int)→Bool
 |[]=>true
 |x::l=>l.all (fun y=>decide (TU k x y<0))&&str3 k l
def ER (k:Nat) (zs:List (Int×Int×Int)):List (Int×Int×Int):=if str3 k (Le k zs)=true then Le k zs else OC k zs
def aps (g:FuncId) (e:TypeId) (vs:List V) (h:List V):Option (V×List V):=
 match vs with
 |[.str s]=>if(Nat.beq e 0&&Nat.beq g 1&&Nat.ble s.length DF)=true then some (U1 s,h)else none
 |[.int .i64 n]=>if(Nat.beq e 0&&Nat.beq g 2&&decide (-9223372036854775808≤n)&&decide (n≤9223372036854775807))=true then some (.str (U2 n),h)else none
 |[.lst _ .nil [],.clo g' [.ref id [] _]]=>match h[id]? with
  |some (.lst e' _ xs)=>if(Nat.ble 1 e&&Nat.blt g 1000000&&Nat.beq g' g&&Nat.beq e' e&&xs.all i3&&Nat.ble xs.length DF)=true then some (.win h.length [] 0 xs.length e,h++[.row e xs])else none
  |_=>none
 |[.win id [] 0 len e',.clo g' []]=>match h[id]? with
  |some (.row e2 xs)=>if(Nat.ble 1 e&&Nat.ble 1000000 g&&Nat.beq g' (g%1000000)&&Nat.beq e' e&&Nat.beq e2 e&&Nat.beq len xs.length&&xs.all (i3t (U3 xs))&&xs.all (fun x=>N9 (g/1000000) (t3 x))&&Nat.ble xs.length DF)=true then
   some (.tup [],h.set id (.row e ((ER (g/1000000) (xs.map t3)).map (Uz (U3 xs)))))else none
  |_=>none
 |_=>none
def Zt:Bool→List V→Option TypeId
 |false,_=>none
 |true,[.lst e .sh []]=>some e
 |true,_=>none
def Zu (x y:V):Option V:=
 match x,y with
 | .lst e .sh [],.lst e' .sh []=>if e=e' then some (.lst e .sh [])else none
 |_,_=>none
def Ja (f:FuncId) (vs:List V):Option (V×List V):=
 match Zt (A.two f) vs with
 |some e=>(O.call f [.lst e .nil []] []).bind fun r=>(O.call f [.lst e .non []] []).bind fun q=>(Zu r.1 q.1).bind fun v=>some (v,[])
 |none=>O.call f vs []
def GI {R:Type} (f:FuncId) (vs:List V) (h:List V) (k:V→List V→Option R):Option R:=
 if A.ext f then Xc P (A.nat f) f vs h k
 else if(A.seq f).1≠0 then(aps (A.seq f).1 (A.seq f).2 vs h).bind fun r=>k r.1 r.2
 else if A.pure f then(Ja A O f (AP h vs)).bind fun r=>k r.1 h
 else(O.call f (Ag vs) h).bind fun r=>k r.1 r.2
def CX {R:Type} (x:V) (vs:List V) (h:List V) (k:V→List V→Option R):Option R:=
 match x with
 | .clo f cs=>GI P A O f (vs++cs) h k
 |_=>none
def void:V:= .row 0 []
def Eg {R:Type} (hd:Option V) (x:V) (vs:List V) (h:List V) (k:V→List V→Option R):Option R:=
 match hd with
 |none=>CX P A O x vs h k
 |some (.ref id _ _)=>match h[id]? with
  |some v=>if(x.away id&&CW id vs&&CW id (h.set id void))=true then
   CX P A O x vs (h.set id void) fun r h'=>if(r.away id&&CW id h'&&Nat.blt id h'.length)=true then k r (h'.set id v)else none
    else none
  |none=>none
 |some _=>none
def U5 (h:List V) (vs:List V):Option Nat:=(List.range (h.length+1)).find? fun m=>AU m vs
def ZL (h h':List V) (l:List V):Bool:=l.all fun x=>match x with
 | .ref id _ _=>(match h[id]?,h'[id]? with
   |some a,some b=>a.same b
   |_,_=>false)
 |_=>false
def DX {R:Type} (kp:Bool) (hd:Option V) (l:List V) (x:V) (vs:List V) (h:List V) (k:V→List V→Option R):Option R:=
 match kp with
 |false=>Eg P A O hd x vs h k
 |true=>(U5 h (x::vs)).bind fun m=>CX P A O x vs (h.take m) fun r h'=>if(Nat.beq h'.length m&&ZL h (h'++h.drop m) l)=true then k r (h'++h.drop m)else none
def RH (x y:V):Bool:=
 match x,y with
 | .ref id _ _,.ref id' _ _=>Nat.beq id id'
 |_,_=>false
def U6 (x y:V):Bool:=
 match x,y with
 | .ref id _ _,.ref id' _ _=> !Nat.beq id id'
 |_,_=>false
def Ep (s:Option Nat) (st:St) (a:V):Bool:=
 match s with
 |none=>true
 |some s=>RH (st.get s) a
def Xi (x:V) (k:Nat) (a:V):Bool:=
 match x,a with
 | .ref _ p _,.ref _ p' _=>decide (p'=p++[k])
 |_,_=>false
def LJ (s f:Option Nat) (st:St) (a:V):Bool:=
 match f with
 |none=>true
 |some k=>match s with
  |none=>false
  |some s=>Xi (st.get s) k a
def avB (h:List V) (a:V) (l:List V):Bool:=l.all fun x=>match x,a with
 | .ref id _ _,.ref id' _ _=> !Nat.beq id id'&&Nat.blt id h.length
 |_,_=>false
def LK (s:Option Nat) (l:List Nat) (st:St) (a:V):Bool:=
 match s with
 |some s=>RH (st.get s) a
 |none=>avB st.h a (l.map st.get)
def AA5 (b:Bool) (vs:List V):Bool:=bif b then AU 0 vs else true
def apartB (st:St):List (Nat×Nat)→Bool
 |[]=>true
 |(s,t)::l=>U6 (st.get s) (st.get t)&&apartB st l
def op0 {R:Type} (fn:FuncId) (rid i:Nat) (o:Oper) (st:St) (k:St→Option R):Option R:=
 match o.op with
 | .move x=>if AQ i (A.take fn rid)then k ((st.give x).put o.dst (st.ev P A o.type x))else k (st.put o.dst (cp P o.type (st.ev P A o.type x)))
 | .assign x=>if AQ i (A.take fn rid)then k ((st.give x).put o.dst (st.ev P A o.type x))else k (st.put o.dst (cp P o.type (st.ev P A o.type x)))
 | .pick c a b=>V.ite (st.ev P A 0 c) (k (st.put o.dst (cp P o.type (st.ev P A o.type a)))) (k (st.put o.dst (cp P o.type (st.ev P A o.type b))))
 | .alloc t=>k ({st with h:=st.h++[zero P t]}.put o.dst (.ref st.h.length [] t))
 | .box t x=>let v:=cp P t (st.ev P A t x)
   if CO P t v&&v.under st.h.length then k ({st with h:=st.h++[v]}.put o.dst (.ref st.h.length [] t))else none
 | .store t a x=>if LK (A.home fn rid i) (A.av fn rid i) st (st.ev P A 0 a)=true then(Gz P st.h t (st.ev P A 0 a) (st.ev P A t x)).bind fun h'=>k {(st.give x)with h:=h'}else none
 | .load t a=>if(LJ (A.home fn rid i) (A.fld fn rid i) st (st.ev P A 0 a)&&Ep (A.home fn rid i) st (st.ev P A 0 a))=true then if AQ i (A.take fn rid)then(Df st.h t (st.ev P A 0 a)).bind fun r=>k ({st with h:=r.2}.put o.dst r.1)
   else(pureOp P A st o).bind fun v=>k (st.put o.dst v)else none
 | .call {callee:= .builtin .copy,args,argTypes}=>match args.toList with
   |[x,y]=>(Xb P (argTypes.getD 0 0) st.h (st.ev P A (argTypes.getD 0 0) x) (st.ev P A (argTypes.getD 1 0) y)).bind fun r=>k ({st with h:=r.2}.put o.dst r.1)
   |_=>none
 | .call {callee:= .builtin .append,args,argTypes}=>
   (pureOp P A st {o with op:= .call {callee:= .builtin .append,args,argTypes}}).bind fun v=>
   let st:=match args.toList with|x::_=>st.give x|[]=>st
   if AQ i (A.muts fn rid)then(match args.toList with
    | .const (.slice none 0 0)::_=>(Dq st.h v).bind fun r=>k ({st with h:=r.2}.put o.dst r.1)
    |_=>none)else k (st.put o.dst v)
 | .call {callee:= .value x,args:=as,argTypes:=ts}=>
   DX P A O (A.fld fn rid i).isSome ((A.home fn rid i).map st.get) ((A.av fn rid i).map st.get) (st.ev P A 0 x) (args P A st {callee:= .value x,args:=as,argTypes:=ts}) st.h fun v h=>if(isFn x||v.noOwn)=true then k ({st with h:=h}.put o.dst v)else none
 |_=>(pureOp P A st o).bind fun v=>
  if AQ i (A.muts fn rid)then(Dq st.h v).bind fun r=>k ({st with h:=r.2}.put o.dst r.1)else k (st.put o.dst v)
def lowL:Op→List Operand
 | .load _ x=>[x]
 | .convert _ _ x=>[x]
 | .call c=>c.args.toList
 |_=>[]
def op {R:Type} (fn:FuncId) (rid i:Nat) (o:Oper) (st:St) (k:St→Option R):Option R:=
 if AA5 (AQ i (A.low fn rid)) ((lowL o.op).map (st.ev P A 0))=true then op0 P A O fn rid i o st k else none
def DC {R:Type} (fn:FuncId) (rid:Nat) (os:Array Oper):List Nat→List Nat→St→(St→Option R)→Option R
 |_,[],st,k=>k st
 |sk,i::is,st,k=>
  match os[i]? with
  |none=>none
  |some o=>
   match o.guard with
   |none=>op P A O fn rid i o st fun st=>DC fn rid os sk is st k
   |some (j,want)=>
    match(os[j]?).bind (·.dst)with
    |none=>none
    |some d=>
     if AQ j sk then(match st.get d with
      | .tup []=>DC fn rid os (i::sk) is (st.put o.dst (.tup [])) k
      |_=>none)
     else V.ite (st.get d)
      (let st:=st.put (some d) (.bool true);if want then op P A O fn rid i o st fun st=>DC fn rid os sk is st k else DC fn rid os (i::sk) is (st.put o.dst (.tup [])) k)
      (let st:=st.put (some d) (.bool false);if want then DC fn rid os (i::sk) is (st.put o.dst (.tup [])) k else op P A O fn rid i o st fun st=>DC fn rid os sk is st k)
def Xj (k:Option (Bool×List Nat)) (s:List (Nat×V)):List (Nat×V):=
 match k with
 |none=>s
 |some (_,l)=>hold l s
def cut {R:Type} (fn blk n:Nat) (st:St) (k:St→Option R):Option R:=
 match A.keep fn blk with
 |none=>k st
 |some (true,l)=>if AU n (l.map st.get)then k ⟨hold l st.s,st.h.take n⟩else none
 |some (false,l)=>k ⟨hold l st.s,st.h⟩
def TV {R:Type} (f:St→(Ex→St→Option R)→Option R) (k:Ex→St→Option R) (e:Ex) (st:St):Option R:=
 match e with
 | .normal=>f st k
 | .exit j=>k (.exit j) st
 | .ret=>k .ret st
def NH {R:Type} (id:Nat) (k:Ex→St→Option R) (e:Ex) (st:St):Option R:=
 match e with
 | .normal=>k .normal st
 | .exit j=>if j=id then k .normal st else k (.exit j) st
 | .ret=>k .ret st
def lp {R:Type} (fn:FuncId) (blk:Nat) (b:Code) (k:Ex→St→Option R) (st:St):Option R:=(O.loop fn blk b st).bind fun r=>k r.1 r.2
def OD {R:Type} (fn blk n:Nat) (b:Code) (k:Ex→St→Option R) (e:Ex) (st:St):Option R:=
 match e with
 | .normal=>cut A fn blk n st (lp O fn blk b k)
 | .exit j=>k (.exit j) st
 | .ret=>k .ret st
def BN {R:Type} (fn:FuncId):Nat→Code→St→(Ex→St→Option R)→Option R
 |_,.skip,st,k=>k .normal st
 |_,.region id os _,st,k=>if apartB {st with s:=drop (A.pre fn id) st.s} (A.apart fn id)=true then
  DC P A O fn id os [] (List.range os.size) {st with s:=drop (A.pre fn id) st.s} fun st=>k .normal {st with s:=drop (A.kills fn id) st.s}else none
 |blk,.seq a b,st,k=>BN fn blk a st (TV (BN fn blk b) k)
 |blk,.cond c a b,st,k=>V.ite (st.ev P A 0 c) (BN fn blk a st k) (BN fn blk b st k)
 |_,.block id b,st,k=>BN fn id b st (NH id k)
 |blk,.loop b,st,k=>lp O fn blk b k {st with s:=Xj (A.keep fn blk) st.s}
 |_,.exit id,st,k=>k (.exit id) st
 |_,.ret,st,k=>k .ret st
 |_,_,_,_=>none
 termination_by structural _ c=>c
def Ff:List V→Option (List Bool)
 |[]=>some []
 | .bool b::l=>(Ff l).map (b::·)
 |_=>none
structure PairD where
 f:FuncId -- the call:of what,with what
 x:Operand
 t:TypeId
 d2:Nat
 d3:Nat
 bx:Nat -- the box,its type,the field,and the field's type
 sT:TypeId
 n:Nat
 tS:TypeId
 e0:Nat
 e1:Nat
 e2:Nat
 ix:Nat -- the place
 e3:Nat
 tE:TypeId
 v:Bool
def OE (os5 os6:List Oper):Option PairD:=
 match os5,os6 with
 |[_,_,o2,o3,o4],[q0,q1,q2,q3,q4]=>
  match o2.dst,o2.op,o2.guard,o3.dst,o3.op,o3.guard,o4.dst,o4.op,o4.guard with
  |some d2,.call {callee:= .value (.func f),args:=as,argTypes:=ts},none,some d3,.fieldAddr sT (.tmp bx) n,none,none,.store tS (.tmp d3') (.tmp d2'),none=>
   match q0.dst,q0.op,q0.guard,q1.dst,q1.op,q1.guard,q2.dst,q2.op,q2.guard with
   |some e0,.fieldAddr sT' (.tmp bx') n',none,some e1,.load tS' (.tmp e0'),none,some e2,.move (.tmp ix),none=>
    match q3.dst,q3.op,q3.guard,q4.dst,q4.op,q4.guard,as.toList with
    |some e3,.indexAddr tS2 (.tmp e1') (.tmp e2'),none,none,.store tE (.tmp e3') (.const (.bool v)),none,[x]=>
     if d2'=d2∧d3'=d3∧d2≠d3∧sT'=sT∧bx'=bx∧n'=n∧tS'=tS∧tS2=tS∧e0'=e0∧e1'=e1∧e2'=e2∧e3'=e3∧e1≠e2∧bx≠d2∧bx≠d3∧ix≠d2∧ix≠d3∧ix≠e0∧ix≠e1 then
      some ⟨f,x,ts.getD 0 0,d2,d3,bx,sT,n,tS,e0,e1,e2,ix,e3,tE,v⟩else none
    |_,_,_,_,_,_,_=>none
   |_,_,_,_,_,_,_,_,_=>none
  |_,_,_,_,_,_,_,_,_=>none
 |_,_=>none
def dead (ds:List Nat) (s:List (Nat×V)):List (Nat×V):=ds.foldl (fun s d=>insert d .undef s) s
def Ik {R:Type} (D:PairD) (st:St) (k:St→Option R):Option R:=
 if(A.pure D.f&& !A.ext D.f&&decide ((A.seq D.f).1=0))=true then
  (O.call D.f (AP st.h [st.ev P A D.t D.x]) []).bind fun r=>
   match r.1,st.get D.bx,st.get D.ix with
   | .lst e .own xs,.ref id p t',.int _ j=>(Ff xs).bind fun bs=>(NG P D.sT D.n (.ref id p t')).bind fun a=>
     if(decide (0≤j)&&Nat.blt j.toNat bs.length&&CO P D.tE (.bool D.v))=true then
      (Gz P st.h D.tS a (.lst e .own ((bs.set j.toNat D.v).map .bool))).bind fun h'=>k ⟨dead [D.d2,D.d3,D.e0,D.e1,D.e2,D.e3] st.s,h'⟩
     else none
   |_,_,_=>none
 else none
def G6 {R:Type} (fn i5 i6:Nat) (os5 os6:Array Oper) (st:St) (k:St→Option R):Option R:=
 (OE os5.toList os6.toList).bind fun D=>
  DC P A O fn i5 os5 [] [0,1] {st with s:=drop (A.pre fn i5) st.s} fun st=>Ik P A O D st fun st=>k ⟨drop (A.kills fn i6) st.s,st.h⟩
def chain {R:Type} (fn:FuncId):Nat→Code→St→(Ex→St→Option R)→Option R
 |0,.seq (.region i5 os5 false) (.seq (.region i6 os6 false) c),st,k=>G6 P A O fn i5 i6 os5 os6 st fun st=>BN P A O fn 0 c st k
 |n+1,.seq a b,st,k=>BN P A O fn 0 a st (TV (chain fn n b) k)
 |_,_,_,_=>none
def GK {R:Type} (f:FuncId) (c:Code) (st:St) (k:Ex→St→Option R):Option R:=
 match A.pair f with
 |0=>BN P A O f 0 c st k
 |n+1=>chain P A O f n c st k
def round (fn:FuncId) (blk:Nat) (b:Code) (st:St):Option (Ex×St):=
 BN P A O fn blk b st (OD A O fn blk st.h.length b fun e st=>some (e,st))
def V.okE:V→Bool
 | .undef=>false
 | .tup _=>false
 |_=>true
def Jb {R:Type} (st:St):List ResultVar→List V→(V→Option R)→Option R
 |[],[v],k=>k v
 |[],vs,k=>if vs.all V.okE=true then k (.tup vs.reverse)else none
 | .tmp t::xs,vs,k=>Jb st xs (st.get t::vs) k
 | .cell a t::xs,vs,k=>(if BF P depth t then GH st.h t (st.get a)else BI st.h t (st.get a)).bind fun v=>Jb st xs (v::vs) k
mutual
def V.over (n:Nat):V→Bool
 | .win id _ _ _ _=>Nat.ble n id
 | .tup vs=>Bv n vs
 | .agg _ vs=>Bv n vs
 | .row _ vs=>Bv n vs
 |_=>true
 termination_by structural x=>x
def Bv (n:Nat):List V→Bool
 |[]=>true
 |x::xs=>x.over n&&Bv n xs
 termination_by structural x=>x
end
def Bh (n:Nat) (h:List V) (r:V):Option (V×List V):=
 let v:=(r.unmut h).norm
 if(v.clean&&r.over n)=true then some (v,h.take n)else none
def LM (n:Nat) (h:List V) (r:V):Option (V×List V):=
 match r with
 | .lst e .own xs=>some (.lst e .own xs,h.take n)
 | .lst e .nil xs=>some (.lst e .nil xs,h.take n)
 | .win id [] off len e=>match h[id]? with
   |some (.row _ _)=>match Aj h (.win id [] off len e)with
    |some xs=>if(AL xs&&Nat.ble n id&&Nat.blt 0 len)=true then some (.lst e .own (Ag xs),h.take n)else none
    |none=>none
   |_=>none
 |_=>none
def Xk (n:Nat) (h:List V) (r:V):Option (V×List V):=
 match r with
 | .lst e .own xs=>some (.lst e .non xs,h.take n)
 | .lst e .nil xs=>some (.lst e .nil xs,h.take n)
 | .lst e .non xs=>some (.lst e .non xs,h.take n)
 |_=>none
def Zv (h:List V) (r:V):Option (V×List V):=some (r.norm,h)
def fin (f:FuncId) (n:Nat) (h:List V) (r:V):Option (V×List V):=
 match A.ret f with
 | .trunc=>Bh n h r
 | .own=>LM n h r
 | .keep=>Zv h r
 | .nul=>Xk n h r
def Jc (f:FuncId) (fn:Func) (n:Nat) (e:Ex) (st:St):Option (V×List V):=
 match e with
 | .exit _=>none
 | .normal=>Jb P st fn.results.toList [] (fin A f n st.h)
 | .ret=>Jb P st fn.results.toList [] (fin A f n st.h)
def body (f:FuncId) (vs:List V) (h:List V):Option (V×List V):=
 if A.bad f=true then none else
 match P.funcs[f]? with
 |none=>none
 |some fn=>match fn.body with
  |none=>none
  |some c=>
   if vs.length≤fn.ntmps then GK P A O f c ⟨LH 0 vs,h⟩ (Jc P A f fn h.length)
   else none
end
mutual
def Es (P:Program) (A:Ann):Nat→FuncId→List V→List V→Option (V×List V)
 |0,_,_,_=>none
 |k+1,f,vs,h=>body P A ⟨Es P A k,GL P A k⟩ f vs h
def GL (P:Program) (A:Ann):Nat→FuncId→Nat→Code→St→Option (Ex×St)
 |0,_,_,_,_=>none
 |k+1,fn,blk,b,st=>round P A ⟨Es P A k,GL P A k⟩ fn blk b st
end
def En (P:Program) (A:Ann) (k:Nat):Orc:=⟨Es P A k,GL P A k⟩
def Orc.le (O O':Orc):Prop:=
 (∀f vs h r,O.call f vs h=some r→O'.call f vs h=some r)∧(∀fn blk b st r,O.loop fn blk b st=some r→O'.loop fn blk b st=some r)
end AM
end
end Go.Proofs.YtkelgdjhpgefnaaGreatDoor
