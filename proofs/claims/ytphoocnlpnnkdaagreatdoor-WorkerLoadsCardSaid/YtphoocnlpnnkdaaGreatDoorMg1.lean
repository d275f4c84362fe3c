/-
  Part of the proof of a statement about the given program: an abstract machine over its code, the simulation, its functions' equations, what they compute.
-/
import GoSem.Dispatch
set_option linter.unusedVariables false
set_option linter.unusedSimpArgs false
set_option linter.unusedSectionVars false
noncomputable section
namespace Go.Proofs.YtphoocnlpnnkdaaGreatDoor
section
namespace AM
open Go
inductive Fl where
 |sh|own|lent|nil|non
 deriving DecidableEq
inductive V where
 |bool (b:Bool)
 |int (k:IntKind) (n:Int)
 |str (s:List UInt8)
 |agg (t:TypeId) (fs:List V)
 |row (e:TypeId) (xs:List V)
 |lst (e:TypeId) (f:Fl) (xs:List V)
 |win (id:Nat) (p:List Nat) (off len:Nat) (e:TypeId)
 |ref (id:Nat) (p:List Nat) (t:TypeId)
 |rop (t:TypeId) (x:V)
 |nilp
 |clo (f:FuncId) (caps:List V)
 |nilf
 |nili
 |ifv
 |tup (vs:List V)
 |undef
 deriving Inhabited
inductive TK where
 |scal
 |slice (e:TypeId)
 |struct (u:TypeId) (fs:List TypeId)
 |array (u:TypeId) (n:Nat) (e:TypeId)
 |bad
def K (P:Program) (t:TypeId):TK:=
 if Nat.blt t P.types.size=false then .bad else
 match P.underlying t with
 |some (.slice e)=> .slice e
 |some (.struct fs)=> .struct (P.underlyingId t) (fs.toList.map (·.type))
 |some (.array n e)=> .array (P.underlyingId t) n e
 |none=> .bad
 |some .invalid=> .bad
 |some (.tuple _)=> .bad
 |some (.named _ _)=> .bad
 |some _=> .scal
def CS (P:Program):Nat→TypeId→Bool
 |0,_=>true
 |d+1,t=>match K P t with
  | .scal=>false
  | .slice _=>true
  | .struct _ fs=>fs.any (CS P d)
  | .array _ _ e=>CS P d e
  | .bad=>true
mutual
def V.weak:V→V
 | .lst e .own xs=> .lst e .sh xs
 | .agg t fs=> .agg t (Fv fs)
 | .row t fs=> .row t (Fv fs)
 |v=>v
 termination_by structural x=>x
def Fv:List V→List V
 |[]=>[]
 |x::xs=>x.weak::Fv xs
 termination_by structural x=>x
end
mutual
def V.norm:V→V
 | .lst e .own xs=> .lst e .sh xs
 | .lst e .nil xs=> .lst e .sh xs
 | .lst e .non xs=> .lst e .sh xs
 | .agg t fs=> .agg t (AP fs)
 | .row t fs=> .row t (AP fs)
 | .tup fs=> .tup (AP fs)
 |v=>v
 termination_by structural x=>x
def AP:List V→List V
 |[]=>[]
 |x::xs=>x.norm::AP xs
 termination_by structural x=>x
end
mutual
def V.clean:V→Bool
 | .bool _=>true
 | .int _ _=>true
 | .str _=>true
 | .nilp=>true
 | .nilf=>true
 | .nili=>true
 | .ifv=>true
 | .agg _ fs=>AU fs
 | .tup fs=>AU fs
 | .lst _ .lent _=>false
 | .lst _ _ _=>true
 |_=>false
 termination_by structural x=>x
def AU:List V→Bool
 |[]=>true
 |x::xs=>x.clean&&AU xs
 termination_by structural x=>x
end
mutual
def V.under (n:Nat):V→Bool
 | .agg _ fs=>Aa n fs
 | .row _ fs=>Aa n fs
 | .tup fs=>Aa n fs
 | .lst _ .lent xs=>Aa n xs
 | .win id _ _ _ _=>id<n
 | .ref id _ _=>id<n
 | .rop _ x=>x.under n
 | .clo _ cs=>Aa n cs
 |_=>true
 termination_by structural x=>x
def Aa (n:Nat):List V→Bool
 |[]=>true
 |x::xs=>x.under n&&Aa n xs
 termination_by structural x=>x
end
mutual
def V.same:V→V→Bool
 | .bool a,y=>match y with| .bool b=>decide (a=b)|_=>false
 | .int k a,y=>match y with| .int k' b=>decide (k=k')&&decide (a=b)|_=>false
 | .str a,y=>match y with| .str b=>decide (a=b)|_=>false
 | .agg t a,y=>match y with| .agg t' b=>Nat.beq t t'&&JJ a b|_=>false
 | .row t a,y=>match y with| .row t' b=>Nat.beq t t'&&JJ a b|_=>false
 | .lst e f a,y=>match y with| .lst e' f' b=>Nat.beq e e'&&decide (f=f')&&JJ a b|_=>false
 | .win i p o n e,y=>match y with| .win i' p' o' n' e'=>Nat.beq i i'&&decide (p=p')&&Nat.beq o o'&&Nat.beq n n'&&Nat.beq e e'|_=>false
 | .ref i p t,y=>match y with| .ref i' p' t'=>Nat.beq i i'&&decide (p=p')&&Nat.beq t t'|_=>false
 | .rop t a,y=>match y with| .rop t' b=>Nat.beq t t'&&a.same b|_=>false
 | .nilp,y=>match y with| .nilp=>true|_=>false
 | .clo f a,y=>match y with| .clo f' b=>Nat.beq f f'&&JJ a b|_=>false
 | .nilf,y=>match y with| .nilf=>true|_=>false
 | .nili,y=>match y with| .nili=>true|_=>false
 | .ifv,y=>match y with| .ifv=>true|_=>false
 | .tup a,y=>match y with| .tup b=>JJ a b|_=>false
 | .undef,y=>match y with| .undef=>true|_=>false
 termination_by structural x=>x
def JJ:List V→List V→Bool
 |[],y=>match y with|[]=>true|_=>false
 |a::l,y=>match y with|b::m=>a.same b&&JJ l m|[]=>false
 termination_by structural x=>x
end
mutual
theorem V.same_eq:∀(x y:V),x.same y=true→x=y
 | .bool _,y,h=>by cases y<;>simp_all [V.same]
 | .int _ _,y,h=>by cases y<;>simp_all [V.same]
 | .str _,y,h=>by cases y<;>simp_all [V.same]
 | .agg _ a,y,h=>by cases y<;>simp[V.same]at h;rename_i b;rw[h.1,Fz a b h.2]
 | .row _ a,y,h=>by cases y<;>simp[V.same]at h;rename_i b;rw[h.1,Fz a b h.2]
 | .lst _ _ a,y,h=>by cases y<;>simp[V.same]at h;rename_i b;rw[h.1.1,h.1.2,Fz a b h.2]
 | .win _ _ _ _ _,y,h=>by cases y<;>simp_all [V.same]
 | .ref _ _ _,y,h=>by cases y<;>simp_all [V.same]
 | .rop _ a,y,h=>by cases y<;>simp[V.same]at h;rename_i b;rw[h.1,V.same_eq a b h.2]
 | .nilp,y,h=>by cases y<;>simp_all [V.same]
 | .clo _ a,y,h=>by cases y<;>simp[V.same]at h;rename_i b;rw[h.1,Fz a b h.2]
 | .nilf,y,h=>by cases y<;>simp_all [V.same]
 | .nili,y,h=>by cases y<;>simp_all [V.same]
 | .ifv,y,h=>by cases y<;>simp_all [V.same]
 | .tup a,y,h=>by cases y<;>simp[V.same]at h;rename_i b;rw[Fz a b h]
 | .undef,y,h=>by cases y<;>simp_all [V.same]
theorem Fz:∀(x y:List V),JJ x y=true→x=y
 |[],y,h=>by cases y<;>simp_all [JJ]
 |a::l,y,h=>by cases y<;>simp[JJ]at h;rename_i b m;rw[V.same_eq a b h.1,Fz l m h.2]
end
mutual
def V.away (n:Nat):V→Bool
 | .agg _ fs=>BM n fs
 | .row _ fs=>BM n fs
 | .tup fs=>BM n fs
 | .lst _ .lent xs=>BM n xs
 | .win id _ _ _ _=> !Nat.beq id n
 | .ref id _ _=> !Nat.beq id n
 | .rop _ x=>x.away n
 | .clo _ cs=>BM n cs
 |_=>true
 termination_by structural x=>x
def BM (n:Nat):List V→Bool
 |[]=>true
 |x::xs=>x.away n&&BM n xs
 termination_by structural x=>x
end
mutual
def V.noOwn:V→Bool
 | .lst _ .own _=>false
 | .agg _ fs=>BG fs
 | .row _ fs=>BG fs
 | .tup fs=>BG fs
 |_=>true
 termination_by structural x=>x
def BG:List V→Bool
 |[]=>true
 |x::xs=>x.noOwn&&BG xs
 termination_by structural x=>x
end
def V.scal:V→Bool
 | .bool _| .int _ _| .str _| .ref _ _ _| .rop _ _| .nilp| .clo _ _| .nilf| .nili| .ifv=>true
 |_=>false
def Bd (P:Program) (t:TypeId) (v:V):Bool:=
 match P.underlying t with
 |some .bool=>match v with
  | .bool _=>true
  |_=>false
 |some (.int k)=>match v with
  | .int k' _=>decide (k'=k)
  |_=>false
 |some .string=>match v with
  | .str _=>true
  |_=>false
 |some (.pointer _)=>match v with
  | .ref _ _ _=>true
  | .rop _ _=>true
  | .nilp=>true
  |_=>false
 |some (.func _ _ _)=>match v with
  | .clo _ _=>true
  | .nilf=>true
  |_=>false
 |some (.interface _)=>match v with
  | .nili=>true
  | .ifv=>true
  |_=>false
 |_=>false
def Bc (P:Program) (t:TypeId) (v:V):Bool:=
 match K P t with
 | .scal=>Bd P t v
 | .slice e=>match v with
   | .lst e' _ _=>e'==e
   | .win _ _ _ _ e'=>e'==e
   |_=>false
 | .struct u _=>match v with
   | .agg t' _=>t'==u
   |_=>false
 | .array u _ _=>match v with
   | .agg t' _=>t'==u
   |_=>false
 | .bad=>false
def Hq (P:Program) (e:TypeId) (xs:List V):Bool:=xs.all (Bc P e)
def V.at:List Nat→V→Option V
 |[],v=>some v
 |i::p,.agg _ fs=>(fs[i]?).bind fun y=>V.at p y
 |i::p,.row _ fs=>(fs[i]?).bind fun y=>V.at p y
 |_,_=>none
def V.upd:List Nat→V→V→Option V
 |[],_,x=>some x
 |i::p,.agg t fs,x=>(fs[i]?).bind fun y=>(V.upd p y x).map fun z=> .agg t (fs.set i z)
 |i::p,.row e fs,x=>(fs[i]?).bind fun y=>(V.upd p y x).map fun z=> .row e (fs.set i z)
 |_,_,_=>none
def rd (h:List V) (id:Nat) (p:List Nat):Option V:=(h[id]?).bind (V.at p)
def wr (h:List V) (id:Nat) (p:List Nat) (x:V):Option (List V):=(h[id]?).bind fun r=>(r.upd p x).map fun r'=>h.set id r'
def V.items:V→Option (List V)
 | .agg _ fs=>some fs
 | .row _ fs=>some fs
 |_=>none
def Ai (h:List V):V→Option (List V)
 | .lst _ _ xs=>some xs
 | .win id p off len _=>((rd h id p).bind V.items).map fun xs=>(xs.drop off).take len
 | .str s=>some (s.map fun b=> .int .u8 b.toNat)
 |_=>none
mutual
def V.unmut (h:List V):V→V
 | .win id p off len e=>match Ai h (.win id p off len e)with
   |some xs=> .lst e (if AU xs then .sh else .lent) (AP xs)
   |none=> .undef
 | .tup vs=> .tup (DU h vs)
 | .agg t vs=> .agg t (DU h vs)
 |v=>v
 termination_by structural x=>x
def DU (h:List V):List V→List V
 |[]=>[]
 |x::xs=>x.unmut h::DU h xs
 termination_by structural x=>x
end
mutual
def V.reify (h:List V):V→V
 | .win id p off len e=>match Ai h (.win id p off len e)with
   |some xs=>if AU xs then .lst e .lent (AP xs)else .undef
   |none=> .undef
 | .lst e .lent xs=> .lst e .lent (AB h xs)
 | .lst e _ xs=> .lst e .sh xs
 | .agg t vs=> .agg t (AB h vs)
 | .clo f cs=> .clo f (AB h cs)
 | .ref _ _ _=> .undef
 | .rop _ _=> .undef
 | .row _ _=> .undef
 | .tup _=> .undef
 |v=>v
 termination_by structural x=>x
def AB (h:List V):List V→List V
 |[]=>[]
 |x::xs=>x.reify h::AB h xs
 termination_by structural x=>x
end
def zeroV (P:Program):Nat→TypeId→V
 |0,_=> .undef
 |d+1,t=>match P.underlying t with
  |some .bool=> .bool false
  |some (.int k)=> .int k 0
  |some .string=> .str []
  |some (.pointer _)=> .nilp
  |some (.slice e)=> .lst e .nil []
  |some (.func _ _ _)=> .nilf
  |some (.interface _)=> .nili
  |some (.array n e)=> .agg (P.underlyingId t) (List.replicate n (zeroV P d e))
  |some (.struct fs)=> .agg (P.underlyingId t) (fs.toList.map fun f=>zeroV P d f.type)
  |_=> .undef
def depth:Nat:=12
def zero (P:Program) (t:TypeId):V:=zeroV P depth t
mutual
def KX:V→V→Option Bool
 | .bool a,.bool b=>some (a==b)
 | .int k a,.int k' b=>if k=k' then some (a==b)else none
 | .str a,.str b=>some (a==b)
 | .agg t xs,.agg t' ys=>if t=t' then MB xs ys else none
 |_,_=>none
 termination_by structural x=>x
def MB:List V→List V→Option Bool
 |[],[]=>some true
 |x::xs,y::ys=>(KX x y).bind fun b=>if b then MB xs ys else some false
 |_,_=>none
 termination_by structural x=>x
end
def Xg (op:BinOp) (a b:Int):Option V:=
 match op with
 | .eql=>some (.bool (a==b))
 | .neq=>some (.bool (a !=b))
 | .lss=>some (.bool (decide (a<b)))
 | .leq=>some (.bool (decide (a≤b)))
 | .gtr=>some (.bool (decide (a>b)))
 | .geq=>some (.bool (decide (a≥b)))
 |_=>none
def AL (op:BinOp) (x y:V):Option V:=
 match op,x,y with
 | .shl,.int k a,.int _ b=>if b<0 then none else some (.int k (k.wrap (a*2^(min b.toNat k.bits))))
 | .shr,.int k a,.int _ b=>if b<0 then none else some (.int k (a.fdiv (2^(min b.toNat k.bits))))
 |op,.int k a,.int k' b=>if k≠k' then none else
  match op with
  | .add=>some (.int k (k.wrap (a+b)))
  | .sub=>some (.int k (k.wrap (a-b)))
  | .mul=>some (.int k (k.wrap (a*b)))
  | .quo=>if b=0 then none else some (.int k (k.wrap (a.tdiv b)))
  | .rem=>if b=0 then none else some (.int k (a.tmod b))
  | .and=>some (.int k (k.wrap ((BitVec.ofInt k.bits a&&& BitVec.ofInt k.bits b).toNat)))
  | .or=>some (.int k (k.wrap ((BitVec.ofInt k.bits a|||BitVec.ofInt k.bits b).toNat)))
  | .xor=>some (.int k (k.wrap ((BitVec.ofInt k.bits a ^^^ BitVec.ofInt k.bits b).toNat)))
  | .andNot=>some (.int k (k.wrap ((BitVec.ofInt k.bits a&&& ~~~(BitVec.ofInt k.bits b)).toNat)))
  |_=>Xg op a b
 | .add,.str a,.str b=>if a.length+b.length≤2^62 then some (.str (a++b))else none
 | .eql,.str a,.str b=>some (.bool (a==b))
 | .neq,.str a,.str b=>some (.bool (!(a==b)))
 | .lss,.str a,.str b=>some (.bool (Op.bytesLess a b))
 | .leq,.str a,.str b=>some (.bool (Op.bytesLess a b||a==b))
 | .gtr,.str a,.str b=>some (.bool (!(Op.bytesLess a b||a==b)))
 | .geq,.str a,.str b=>some (.bool (!(Op.bytesLess a b)))
 |_,_,_=>none
def un (op:UnOp) (x:V):Option V:=
 match op,x with
 | .neg,.int k n=>some (.int k (k.wrap (0-n)))
 | .xor,.int k n=>some (.int k (k.wrap ((BitVec.ofInt k.bits (if k.signed then -1 else k.max) ^^^ BitVec.ofInt k.bits n).toNat)))
 | .not,.bool b=>some (.bool (!b))
 |_,_=>none
def ADq (P:Program):Nat→TypeId→Bool
 |0,_=>false
 |d+1,t=>match P.underlying t with
  |some .bool=>true
  |some (.int _)=>true
  |some .string=>true
  |some (.struct fs)=> !P.stoodInHeld t&&fs.toList.all fun f=>f.name != "_"&&ADq P d f.type
  |some (.array _ e)=>ADq P d e
  |_=>false
def AKM:V→Option Bool
 | .lst _ .nil []=>some true
 | .lst _ .non _=>some false
 | .lst _ _ (_::_)=>some false
 |_=>none
def KY (op:BinOp) (x y:V):Option V:=
 match y with
 | .lst _ .nil []=>match op with
   | .eql=>(AKM x).map .bool
   | .neq=>(AKM x).map fun r=> .bool (!r)
   |_=>none
 |_=>none
def AOH (P:Program) (t:TypeId) (op:BinOp) (x y:V):Option V:=
 match P.underlying t with
 |some (.slice _)=>KY op x y
 |_=>if ADq P 12 t&& !P.eqGuardType P.depth t&&Bc P t x&&Bc P t y then
  match op with
  | .eql=>(KX x y).map .bool
  | .neq=>(KX x y).map fun r=> .bool (!r)
  |_=>none
 else none
def isT (P:Program) (t:TypeId):Bool:=
 match P.underlying t with
 |some .bool=>true
 |some (.struct _)=>true
 |some (.array _ _)=>true
 |some (.slice _)=>true
 |_=>false
def EI:Nat:=2147483648
def look (t:Nat):List (Nat×V)→V
 |[]=> .undef
 |(i,v)::s=>bif Nat.beq i t then v else look t s
def insert (t:Nat) (v:V):List (Nat×V)→List (Nat×V)
 |[]=>[(t,v)]
 |(i,w)::s=>bif Nat.blt t i then(t,v)::(i,w)::s else bif Nat.beq i t then(t,v)::s else(i,w)::insert t v s
def Ak (t:Nat):List Nat→Bool
 |[]=>false
 |i::l=>bif Nat.beq i t then true else Ak t l
def drop (l:List Nat):List (Nat×V)→List (Nat×V)
 |[]=>[]
 |(i,v)::s=>bif Ak i l then drop l s else(i,v)::drop l s
def hold (l:List Nat):List (Nat×V)→List (Nat×V)
 |[]=>[]
 |(i,v)::s=>bif Ak i l then(i,v)::hold l s else hold l s
def TJ:Nat→List V→List (Nat×V)
 |_,[]=>[]
 |i,v::vs=>(i,v)::TJ (i+1) vs
structure St where
 s:List (Nat×V)
 h:List V
def St.put (st:St) (d:Option Tmp) (v:V):St:=
 match d with
 |some d=>{st with s:=insert d v st.s}
 |none=>st
def St.get (st:St) (t:Tmp):V:=look t st.s
inductive Ex where
 |normal
 |exit (id:Nat)
 |ret
inductive Ret where
 |trunc|own|keep|nul
 deriving DecidableEq
structure Ann where
 pre:FuncId→Nat→List Nat -- of a region:the slots that nobody reads from its beginning on
 kills:FuncId→Nat→List Nat -- of a region:the slots that nobody reads any more
 keep:FuncId→Nat→Option (Bool×List Nat) -- of a block with a loop:the slots that live at its head,and whether a round's boxes are gone behind it
 take:FuncId→Nat→List Nat -- of a region:the moves and loads that hand the right to append on
 muts:FuncId→Nat→List Nat -- of a region:the operations that make a box of a slice
 pure:FuncId→Bool -- called without boxes
 ret:FuncId→Ret
 glob:Nat→Option (TypeId×V) -- what a package's variable holds
 ext:FuncId→Bool -- the library's maker of bytes that hold anything;and what looks for a byte in a text
 nat:FuncId→Nat -- of the latter:1 where the first one is,2 how many there are
 bad:FuncId→Bool -- a function that AM does not carry out
 seq:FuncId→FuncId×TypeId -- the library's walk over a function's yields:of which function (0:it is none),of what items
 home:FuncId→Nat→Nat→Option Nat -- of a region's loads:the slot that names the box;of its calls:the slot that names a box that is hidden from the callee
 fld:FuncId→Nat→Nat→Option Nat -- of a load with a home:the field of the box that it takes
 av:FuncId→Nat→Nat→List Nat -- of a store:slots that name boxes that it leaves as they are
 pair:FuncId→Nat -- a function with two regions that are one step (a new slice,an item of it written):one more than the regions ahead of them
 two:FuncId→Bool -- a function of one slice that may ask whether it is nil:of one without items both answers are sought
 low:FuncId→Nat→List Nat -- of a region:the operations whose operands name no box
 apart:FuncId→Nat→List (Nat×Nat) -- of a region:slots that name different boxes
def bytesOf (s:List UInt8):List V:=s.map fun b=> .int .u8 b.toNat
def byteOf:V→Option UInt8
 | .int .u8 n=>some (UInt8.ofNat n.toNat)
 |_=>none
def Fg:List V→Option (List UInt8)
 |[]=>some []
 |x::xs=>(byteOf x).bind fun b=>(Fg xs).map (b::·)
structure Orc where
 call:FuncId→List V→List V→Option (V×List V)
 loop:FuncId→Nat→Code→St→Option (Ex×St)
section
variable (P:Program) (A:Ann)
def GL (t:TypeId):TypeId:=match K P t with| .slice e=>e|_=>0
def cst (t:TypeId):Value→V
 | .bool b=> .bool b
 | .int k n=> .int k n
 | .string s=> .str s.data.toList
 | .pointer none=> .nilp
 | .slice none 0 0=> .lst (GL P t) .nil []
 | .nilFunc=> .nilf
 | .nilIface=> .nili
 |_=> .undef
def St.ev (st:St) (t:TypeId):Operand→V
 | .tmp i=>st.get i
 | .const c=>cst P t c
 | .global g=>match A.glob g with
   |some (t,v)=> .rop t v
   |none=> .undef
 | .func f=> .clo f []
def cp (t:TypeId) (v:V):V:=if CS P depth t then v.weak else v
def D8 (t:TypeId) (vs:List V):List V:=if CS P depth t then AP vs else vs
def AX (h:List V) (t:TypeId):V→Option V
 | .ref id p t'=>if t'=t then rd h id p else none
 | .rop t' x=>if t'=t then some x else none
 |_=>none
def CU (h:List V) (t:TypeId) (a:V):Option V:=(AX h t a).map V.weak
def ld (h:List V) (t:TypeId) (a:V):Option V:=if CS P depth t then CU h t a else AX h t a
def BR (h:List V) (t:TypeId):V→Option (V×List V)
 | .ref id p t'=>if t'=t then(rd h id p).bind fun v=>(wr h id p v.weak).map fun h'=>(v,h')else none
 |_=>none
def FW (h:List V) (t:TypeId) (a v:V):Option (List V):=
 match a with
 | .ref id p t'=>if t'=t then(if Bc P t v&&v.under (id+1)then wr h id p v else none)else none
 |_=>none
def Ag:V→Option V
 | .ref id p t=>some (.ref id p t)
 | .rop t x=>some (.rop t x)
 | .clo f cs=>some (.clo f cs)
 |_=>none
def Af (s:TypeId) (f:Nat) (a:V):Option V:=
 match K P s with
 | .struct _ fs=>match fs[f]? with
   |some ft=>if P.cellsOf ft=0 then none else
    match a with
    | .ref id p t=>if t=s then some (.ref id (p++[f]) ft)else none
    | .rop t x=>if t=s then(match x with
      | .agg _ xs=>(xs[f]?).map (.rop ft)
      |_=>none)else none
    |_=>none
   |none=>none
 |_=>none
def Z9 (s:TypeId) (f:Nat) (x:V):Option V:=
 match K P s with
 | .struct u fs=>match x,fs[f]? with
   | .agg t xs,some ft=>if t=u then(xs[f]?).map (cp P ft)else none
   |_,_=>none
 |_=>none
def inside (i:Int) (n:Nat):Bool:=decide (0≤i)&&decide (i<n)
def AY (t:TypeId) (x i:V):Option V:=
 match i with
 | .int _ i=>match K P t with
   | .slice e=>match x with
     | .lst e' _ xs=>if e'=e&&inside i xs.length then(xs[i.toNat]?).map (.rop e)else none
     | .win id p off len e'=>if e'=e&&inside i len then some (.ref id (p++[off+i.toNat]) e)else none
     |_=>none
   | .array u n e=>match x with
     | .ref id p t'=>if t'=t&&inside i n then some (.ref id (p++[i.toNat]) e)else none
     | .rop t' y=>if t'=t&&inside i n then(match y with
       | .agg u' xs=>if u'=u then(xs[i.toNat]?).map (.rop e)else none
       |_=>none)else none
     |_=>none
   |_=>none
 |_=>none
def Il (t:TypeId) (x i:V):Option V:=
 match i with
 | .int _ i=>match x with
   | .str s=>match P.underlying t with
     |some .string=>if inside i s.length then(s[i.toNat]?).map fun b=> .int .u8 b.toNat else none
     |_=>none
   | .agg u' xs=>match K P t with
     | .array u n e=>if u'=u&&inside i n then(xs[i.toNat]?).map (cp P e)else none
     |_=>none
   |_=>none
 |_=>none
def CQ (n:Nat) (lo hi mx:Option V):Option (Nat×Nat):=
 (match mx with
  |none=>some n
  |some (.int _ m)=>if 0≤m∧m≤n then some m.toNat else none
  |_=>none).bind fun m=>
 (match hi with
  |none=>if mx.isSome then none else some n
  |some (.int _ j)=>if 0≤j∧j≤m then some j.toNat else none
  |_=>none).bind fun j=>
 (match lo with
  |none=>some 0
  |some (.int _ i)=>if 0≤i∧i≤j then some i.toNat else none
  |_=>none).map fun i=>(i,j)
def Fl.cut:Fl→Fl
 | .lent=> .lent
 | .nil=> .nil
 |_=> .sh
def ABS (P:Program) (t:TypeId):Bool:=
 match P.underlying t with
 |some .string=>true
 |_=>false
def KZ (t:TypeId) (x:V) (lo hi mx:Option V):Option V:=
 match x with
 | .str s=>if ABS P t&&mx.isNone then(CQ s.length lo hi none).map fun b=> .str ((s.take b.2).drop b.1)else none
 | .lst e f xs=>match K P t with
   | .slice e'=>if e'=e then(CQ xs.length lo hi mx).map fun b=> .lst e f.cut ((xs.take b.2).drop b.1)else none
   |_=>none
 | .win id p off len e=>match K P t with
   | .slice e'=>if e'=e then(CQ len lo hi mx).map fun b=> .win id p (off+b.1) (b.2-b.1) e else none
   |_=>none
 | .ref id p t'=>match K P t with
   | .array _ n e=>if t'=t then(CQ n lo hi mx).map fun b=> .win id p b.1 (b.2-b.1) e else none
   |_=>none
 | .rop t' y=>match K P t with
   | .array u n e=>if t'=t then(match y with
     | .agg u' xs=>if u'=u then(CQ n lo hi mx).map fun b=> .lst e .lent ((xs.take b.2).drop b.1)else none
     |_=>none)else none
   |_=>none
 |_=>none
def CY (ty:Nat→Option TypeId):List V→List (Nat×V)→Option (List V)
 |xs,[]=>some xs
 |xs,(i,v)::ps=>match ty i with
  |some t=>if i<xs.length&&Bc P t v then CY ty (xs.set i (cp P t v)) ps else none
  |none=>none
def bld (t:TypeId) (ps:List (Nat×V)):Option V:=
 match K P t,zero P t with
 | .struct u fs,.agg _ zs=>(CY P (fs[·]?) zs ps).map (.agg u)
 | .array u _ e,.agg _ zs=>(CY P (fun _=>some e) zs ps).map (.agg u)
 |_,_=>none
def DR (t:TypeId) (n:Nat) (ps:List (Nat×V)):Option V:=
 match K P t with
 | .slice e=>if n≤65536 then
  (CY P (fun _=>some e) (List.replicate n (zero P e)) ps).map fun xs=> .lst e (if AU xs then .own else .lent) (D8 P e xs)else none
 |_=>none
def mkS (t:TypeId) (len cap:V):Option V:=
 match K P t,len,cap with
 | .slice e,.int _ n,.int _ c=>if 0≤n∧n≤c∧c≤1048576 then some (.lst e .own (List.replicate n.toNat (zero P e)))else none
 |_,_,_=>none
def Dp (h:List V):V→Option (V×List V)
 | .lst e .own xs=>some (.win h.length [] 0 xs.length e,h++[.row e xs])
 | .lst e .nil []=>some (.win h.length [] 0 0 e,h++[.row e []])
 |_=>none
def conv (h:List V) (src dst:TypeId) (x:V):Option V:=
 match P.underlying dst,x with
 |some (.int k),.int _ n=>some (.int k (k.wrap n))
 |some .string,.str s=>some (.str s)
 |some (.slice e),.str s=>match P.underlying e with
  |some (.int .u8)=>if s.length≤EI then some (.lst e .own (bytesOf s))else none
  |_=>none
 |some .string,x=>match P.underlying src with
  |some (.slice e)=>match P.underlying e with
   |some (.int .u8)=>((Ai h x).bind Fg).map .str
   |_=>none
  |_=>none
 |_,_=>none
def lenV (t:TypeId) (x:V):Option V:=
 match P.underlying t with
 |some .string=>match x with
  | .str s=>some (.int .i64 s.length)
  |_=>none
 |some (.slice _)=>match x with
  | .lst _ _ xs=>some (.int .i64 xs.length)
  | .win _ _ _ len _=>some (.int .i64 len)
  |_=>none
 |some (.array n _)=>some (.int .i64 n)
 |_=>none
def EP (t:TypeId) (h:List V) (x y:V):Option V:=
 match K P t,x with
 | .slice e,.lst e' f xs=>if e'=e&&(f== .own||f== .nil)then
  (Ai h y).bind fun ys=>if AU ys&&Hq P e ys&&decide (xs.length+ys.length≤EI)then some (.lst e (if f== .nil&&ys.isEmpty then .nil else .own) (xs++D8 P e ys))else none
   else none
 |_,_=>none
def cpy (t:TypeId) (h:List V) (x y:V):Option (V×List V):=
 match x with
 | .win id p off len e=>if Nat.beq e (GL P t)=false then none else(Ai h y).bind fun ys=>
   let n:=min ys.length len
   ((rd h id p).bind V.items).bind fun xs=>
     if AU ys&&Hq P e ys then
      (match(rd h id p)with
       |some (.row e' _)=>wr h id p (.row e' (xs.take off++(D8 P e ys).take n++xs.drop (off+n)))
       |some (.agg t' _)=>wr h id p (.agg t' (xs.take off++(D8 P e ys).take n++xs.drop (off+n)))
       |_=>none).map fun h'=>(.int .i64 n,h')
     else none
 |_=>none
def O4 (x y:V):Option V:=
 match x,y with
 | .int k a,.int k' b=>if k=k' then some (.int k (if b<a then b else a))else none
 |_,_=>none
def Xh (x y:V):Option V:=
 match x,y with
 | .int k a,.int k' b=>if k=k' then some (.int k (if b>a then b else a))else none
 |_,_=>none
def ext (x:V) (i:Nat):Option V:=
 match x with
 | .tup vs=>vs[i]?
 |_=>none
def QI (x:V) (i:Nat):Option V:=(ext x i).map V.weak
def V.ite {α:Type} (c:V) (a b:Option α):Option α:=
 match c with
 | .bool true=>a
 | .bool false=>b
 |_=>none
end
end AM
end
end Go.Proofs.YtphoocnlpnnkdaaGreatDoor
