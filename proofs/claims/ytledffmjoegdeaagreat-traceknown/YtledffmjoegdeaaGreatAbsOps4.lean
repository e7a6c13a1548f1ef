/- The abstract interpreter: values, stores, operations, code. Plain definitions; nothing is claimed here. -/
import GoSem.Step
import Derived.Below
import Derived.Deep.AppendSrc
import Derived.Deep.LoopGhost
import Derived.Laws.IdiomStrings
import Derived.Lib.Strings
set_option linter.all false
open Go.IntKind renaming i64->AI
open Option renaming some->Zz
open Nat renaming beq->Zy,eq_of_beq_eq_true->Zw,le_of_ble_eq_true->Zu,blt->Zq,le_refl->Zk,lt_of_lt_of_le->Zf,mul_le_mul_right->Zm,ble->Zh
open Decidable renaming decide->Zx
open Bool renaming false->Zv,and_eq_true->Zj,true->Zn
open List renaming getElem?_eq_some_iff->Zp,getElem?_take->Zd,flatMap_cons->Zg,getElem?_eq_getElem->Zb,eq_nil_of_length_eq_zero->Yz
abbrev Qa0:=@if_neg
abbrev Qa1:=@if_pos
abbrev Qa2:=@decide_eq_true_eq
abbrev Qa3:=@of_decide_eq_true
abbrev Qa4:=@decide_eq_true
abbrev Qa5:=@decide_eq_false
abbrev Qa6:=@cond_true
abbrev Qa7:=@cond_false
abbrev Qa8:=@and_true
abbrev Qa9:=@true_and
abbrev Qb0:=@beq_iff_eq
abbrev Qb1:=@beq_self_eq_true
abbrev Qb2:=@Eq.trans
abbrev Qb3:=@decide_true
abbrev Qb4:=@congrArg
abbrev Qb5:=@of_decide_eq_false
namespace Kerb
def CQ(n m:Int):Int:=if m<n then m else n
def imax(n m:Int):Int:=if m>n then m else n
end Kerb
namespace Go.Abs
inductive AV where
 | undef
 | int (k:IntKind) (n:Int)
 | u8 (b:UInt8)
 | bool (b:Bool)
 | str (s:List UInt8)
 | bs (l:List UInt8)
 | sl (sz:Nat) (els:List AV)
 | bJ
 | row (k:Nat)
 | ptr (k off:Nat)
 | jQ (k i sz off:Nat)
 | jX (cs:List AV)
 | mr
 | agg (cs:List AV)
 | bp (vs:List AV)
 | eG (l:List UInt8)
 | ay (els:List AV)
 | bY (k:Nat) (iQ:List Nat)
 | pQ (k off:Nat)
 | pre (k n:Nat)
 | Ei (k m z:Nat)
 | fn (f:Nat)
 | A1 (f:Nat) (fs cs:List (Nat×Nat))
 | Az
 | mp (k:Nat)
 | sJ
 | bL (k e sz:Nat)
inductive bI where
 | free
 | dead
 | cells (cs:List AV)
 | jG (l:List UInt8) (iS:Bool)
 | fm (e:Nat) (l:List UInt8) (iS:Bool)
 | cF (e sz:Nat) (els:List AV) (iS:Bool)
 | oV (str:Bool) (kd:IntKind) (els:List AV)
 | jp (e sz:Nat) (els:List AV)
inductive CT where
 | int (k:IntKind) | u8 | bool | str | c4 | sl (sz:Nat) | ptr | other
inductive TK where
 | int (k:IntKind) | u8 | bool | str
 | slice (e:Nat) (byte:Bool)
 | c8 (n e:Nat) (byte:Bool)
 | struct (fs:List (Nat×Nat))
 | ptr (e:Nat)
 | map (k e:Nat)
 | other
structure TI where
 size:Nat
 bytes:Nat
 kind:TK
 zero:List AV
 iN:List CT
 F6:List CT
inductive KC where
 | js (c:CT)
 | own (key e z:Nat) (byte:Bool)
 | tS (key:Nat) (str:Bool) (kd:IntKind)
inductive i_ where
 | val (slot ty:Nat)
 | fm (slot e:Nat) (iS:Bool)
 | cF (slot e sz:Nat) (iS:Bool)
 | ptr (slot k off:Nat)
 | cells (k:Nat) (iN:List CT)
 | jG (k:Nat) (iS:Bool)
 | bY (slot k:Nat) (iQ:List Nat)
 | gw (k:Nat) (uh:List KC)
 | rowAt (k:Nat) (h:Bool) (e sz:Nat)
 | ij (slot k e sz:Nat)
abbrev aO:=List (List AV)
abbrev EV:=Nat->List AV->List (Nat×List AV)->Option (AV×aO)
structure Fr where
 aL:Nat->AV
 st:Nat->bI
structure FP where
 rd:List Nat
 wr:List Nat
def FP.none:FP:=⟨[],[]⟩
abbrev lM(α:Type):=AV->(Nat->bI)->FP->Option α
def merge(wr:List Nat)(s1 s2:Nat->bI):Nat->bI:=λx=>if x∈wr then s1 x else s2 x
abbrev wD(A:Type):=(Z:Type)->(Nat->bI)->(A->(Nat->bI)->FP->Option Z)->Option Z
structure Loc {A:Type} (T:wD A) (st:Nat->bI) (a:A) (st':Nat->bI) (fp:FP):Prop where
 nM:∀ x,x ∉ fp.wr->st' x=st x
 run:∀ cA,(∀ x∈fp.rd,cA x=st x)->∀ Z k2,T Z cA k2=k2 a (merge fp.wr st' cA) fp
structure aj {A:Type} (T:wD A):Prop where
 go:∀ {α:Type} {st:Nat->bI} {k:A->(Nat->bI)->FP->Option α} {r:α},T α st k=Zz r->∃ a st' fp,k a st' fp=Zz r/\Loc T st a st' fp
structure Ca where
 run:(α:Type)->Nat->List AV->(Nat->bI)->lM α->Option α
 loc:∀ kb args,aj (λZ s k=>run Z kb args s k)
structure Env where
 ty:Nat->Option TI
 keep:Nat->List i_
 own:Nat->Bool
 call:EV
 qU:Nat->Option (List AV)
 hand:List Nat
 kb:Nat
 inl:Nat->Option Ca
section
variable {α:Type}
def AV.aw(kd:IntKind)(v:AV)(f:Int->Option α):Option α:=match v with | .int k n=>bif k==kd then f n else none | _=>none
def AV.qW(v:AV)(f:UInt8->Option α):Option α:=match v with | .u8 b=>f b | _=>none
def AV.dw(v:AV)(f:Bool->Option α):Option α:=match v with | .bool b=>f b | _=>none
def AV.pM(v:AV)(f:Bool->Option α)(s:Option α):Option α:=match v with | .bool b=>f b | .bp []=>s | _=>none
def AV.Oa(v:AV)(f:Nat->List (Nat×Nat)->List (Nat×Nat)->Option α):Option α:=match v with | .fn n=>f n [] [] | .A1 n a b=>f n a b | _=>none
def Tr:List AV->Option (List (Nat×Nat))
 | []=>Zz []
 | .ptr k o::r=>(Tr r).map ((k,o) :: ·)
 | _=>none
def mv(l:List (Nat×Nat)):List AV:=l.map λx => .ptr x.1 x.2
def AV.fT(v:AV)(f:List UInt8->Option α):Option α:=match v with | .str s=>f s | _=>none
def AV.dC(v:AV)(f:List UInt8->Option α):Option α:=match v with | .bs l=>f l | _=>none
def AV.fN(sz:Nat)(v:AV)(f:List AV->Option α):Option α:=match v with | .sl z l=>bif Zy z sz then f l else none | _=>none
def AV.dt(v:AV)(f:List AV->Option α):Option α:=match v with | .agg l=>f l | _=>none
def AV.gJ(v:AV)(f:List AV->Option α):Option α:=match v with | .bp l=>f l | _=>none
def AV.fS(v:AV)(f:List UInt8->Option α):Option α:=match v with | .eG l=>f l | _=>none
def AV.aS(v:AV)(f:List AV->Option α):Option α:=match v with | .ay l=>f l | _=>none
def ar(l:List AV)(f:AV->List AV->Option α):Option α:=match l with | x::r=>f x r | []=>none
def ak(l:List AV)(f:Option α):Option α:=match l with | []=>f | _::_=>none
def ax(b:Bool)(f:Option α):Option α:=cond b f none
def aK(b:Bool)(f g:Option α):Option α:=match b with | true=>f | false=>g
def aE(l:List (List AV))(f:Option α):Option α:=match l with | []=>f | _::_=>none
def aJ(l:List (List AV))(f:List AV->List (List AV)->Option α):Option α:=match l with | x::r=>f x r | []=>none
end
def RZ{α:Type}(v:AV)(k:AV->Option α):Option α:=match v with
 | .undef=>k (.undef)
 | .int a b=>k (.int a b)
 | .u8 a=>k (.u8 a)
 | .bool a=>k (.bool a)
 | .str a=>k (.str a)
 | .bs a=>k (.bs a)
 | .sl a b=>k (.sl a b)
 | .bJ=>k (.bJ)
 | .row a=>k (.row a)
 | .ptr a b=>k (.ptr a b)
 | .jQ a b c d=>k (.jQ a b c d)
 | .jX a=>k (.jX a)
 | .mr=>k (.mr)
 | .agg a=>k (.agg a)
 | .bp a=>k (.bp a)
 | .eG a=>k (.eG a)
 | .ay a=>k (.ay a)
 | .bY a b=>k (.bY a b)
 | .pQ a b=>k (.pQ a b)
 | .pre a b=>k (.pre a b)
 | .Ei a b c=>k (.Ei a b c)
 | .fn a=>k (.fn a)
 | .A1 a b c=>k (.A1 a b c)
 | .Az=>k (.Az)
 | .mp a=>k (.mp a)
 | .sJ=>k (.sJ)
 | .bL a b c=>k (.bL a b c)
theorem Pl{α:Type}(v:AV)(k:AV->Option α):RZ v k=k v:=by cases v<;>rfl
def Aj{α:Type}:List AV->(List AV->Option α)->Option α
 | [],k=>k []
 | c::r,k=>RZ c λb=>Aj r λa=>k (b::a)
theorem nX{α:Type}:∀ (l:List AV) (k:List AV->Option α),Aj l k=k l
 | [],k=>rfl
 | c::r,k=>by simp only[Aj,Pl,nX]
def R2{α:Type}(v:AV)(k:AV->Option α):Option α:=match v with
 | .undef=>k (.undef)
 | .int a b=>k (.int a b)
 | .u8 a=>k (.u8 a)
 | .bool a=>k (.bool a)
 | .str a=>k (.str a)
 | .bs a=>k (.bs a)
 | .sl a b=>k (.sl a b)
 | .bJ=>k (.bJ)
 | .row a=>k (.row a)
 | .ptr a b=>k (.ptr a b)
 | .jQ a b c d=>k (.jQ a b c d)
 | .jX a=>k (.jX a)
 | .mr=>k (.mr)
 | .agg a=>Aj a λl=>k (.agg l)
 | .bp a=>k (.bp a)
 | .eG a=>k (.eG a)
 | .ay a=>k (.ay a)
 | .bY a b=>k (.bY a b)
 | .pQ a b=>k (.pQ a b)
 | .pre a b=>k (.pre a b)
 | .Ei a b c=>k (.Ei a b c)
 | .fn a=>k (.fn a)
 | .A1 a b c=>k (.A1 a b c)
 | .Az=>k (.Az)
 | .mp a=>k (.mp a)
 | .sJ=>k (.sJ)
 | .bL a b c=>k (.bL a b c)
theorem Pm{α:Type}(v:AV)(k:AV->Option α):R2 v k=k v:=by cases v<;>first | rfl | exact nX _ _
def eS:List CT->List AV->Bool
 | [],[]=>Zn
 | .int k::cs,.int k' _::vs=>k==k'&&eS cs vs
 | .u8::cs,.u8 _::vs=>eS cs vs
 | .bool::cs,.bool _::vs=>eS cs vs
 | .str::cs,.str _::vs=>eS cs vs
 | _,_=>Zv
def AV.cells:AV->List AV
 | .agg cs=>cs
 | v=>[v]
def AV.d_:AV->Bool
 | .int .. | .u8 _ | .bool _ | .str _ | .bs _ | .sl .. | .bJ | .row _ | .ptr .. | .jQ .. | .jX _ | .mr | .bY .. | .pQ .. | .pre .. | .Ei .. | .fn _ | .A1 .. | .Az | .mp _ | .sJ | .bL .. => Zn
 | _=>Zv
def oW(k:IntKind)(n:Int):AV:=match k with | .u8 => .u8 (UInt8.ofNat n.toNat) | k => .int k n
def Hw:Value->Option AV
 | .bool b=>Zz (.bool b)
 | .int k n=>match k with
  | .u8=>bif Zx (0<=n)&&Zx (n<256) then Zz (.u8 (UInt8.ofNat n.toNat)) else none
  | k=>Zz (.int k n)
 | .string s=>Zz (.str s.data.toList)
 | .slice none 0 0=>Zz .bJ
 | .pointer none=>Zz .mr
 | .map none=>Zz .Az
 | .nilFunc=>Zz .sJ
 | _=>none
def ry:List Value->Option (List AV)
 | []=>Zz []
 | v::r=>match Hw v,ry r with | some a,Zz l=>Zz (a::l) | _,_=>none
def Tj(v:Value):Option AV :=
 match v with
 | .agg cs=>(ry cs.toList).map .agg
 | v=>Hw v
def nc:AV->AV->Bool
 | .int a n,.int b m=>(a==b)&&(n==m)
 | .str a,.str b=>a==b
 | _,_=>Zv
def gp:AV->AV
 | .bp (k::_)=>k
 | _ => .undef
def vn:AV->AV
 | .bp [_,v]=>v
 | _ => .undef
def _root_.Kerb.qv(x:AV):List AV->Option AV
 | []=>none
 | e::r=>bif nc (gp e) x then Zz (vn e) else Kerb.qv x r
def _root_.Kerb.Uy(x:AV)(l:List AV):Bool:=(Kerb.qv x l).isSome
def _root_.Kerb.getM(x:AV)(l:List AV)(d:AV):AV:=(Kerb.qv x l).getD d
def _root_.Kerb.pR(x v:AV):List AV->List AV
 | []=>[.bp [x,v]]
 | e::r=>bif nc (gp e) x then .bp [x,v]::r else e::Kerb.pR x v r
def rn(str:Bool)(kd:IntKind)(v:AV):Bool:=match v with
 | .int k _ => !str&&k==kd
 | .str _=>str
 | _=>Zv
def zj(i:TI):Option (Bool×IntKind):=match i.kind with
 | .int k=>Zz (Zv,k)
 | .str=>Zz (Zn,AI)
 | _=>none
section ops
variable {α:Type} (E:Env)
def gq(c:CT)(v:AV)(k:AV->Option α):Option α :=
 match c with
 | .int kd=>v.aw kd λn=>k (.int kd n)
 | .u8=>v.qW λb=>k (.u8 b)
 | .bool=>v.dw λb=>k (.bool b)
 | .str=>v.fT λb=>k (.str b)
 | .c4=>v.dC λb=>k (.bs b)
 | .sl z=>v.fN z λb=>k (.sl z b)
 | _=>none
def rN:List CT->List AV->(List AV->Option α)->Option α
 | [],l,k=>ak l (k [])
 | c::cs,l,k=>ar l λx r=>gq c x λa=>rN cs r λb=>k (a::b)
def dv:TK->Bool
 | .struct _ | .c8 .. => Zn
 | _=>Zv
def zeroV(i:TI):AV:=match dv i.kind with
 | true => .agg i.zero
 | false=>i.zero.headD .undef
def norm(i:TI)(v:AV)(k:AV->Option α):Option α :=
 match dv i.kind with
 | true=>v.dt λcs=>rN i.iN cs λa=>k (.agg a)
 | false=>match i.iN with
  | [c]=>gq c v k
  | _=>none
def cQ{Z:Type}(f:Nat->Z)(k:Nat)(b:Z):Nat->Z:=λx=>bif Zy x k then b else f x
def Dm(c:CT)(v:AV)(st:Nat->bI)(k:AV->(Nat->bI)->FP->Option α):Option α :=
 match c,v with
 | .c4,.bJ=>k (.bs []) st .none
 | .sl z,.bJ=>k (.sl z []) st .none
 | _,.row r=>match st r with
  | .fm e l _=>k (.bs l) (cQ st r (.fm e l Zn)) ⟨[r],[r]⟩
  | .cF e z l _=>k (.sl z l) (cQ st r (.cF e z l Zn)) ⟨[r],[r]⟩
  | _=>none
 | _,.int kd n=>k (.int kd n) st .none
 | _,.u8 b=>k (.u8 b) st .none
 | _,.bool b=>k (.bool b) st .none
 | _,.str s=>k (.str s) st .none
 | _,.bs l=>k (.bs l) st .none
 | _,.sl z l=>k (.sl z l) st .none
 | _,.mr=>k .mr st .none
 | _,.jX cs=>k (.jX cs) st .none
 | _,_=>none
def FP.add(a b:FP):FP:=⟨a.rd++b.rd,a.wr++b.wr⟩
def nQ:List CT->List AV->(Nat->bI)->(List AV->(Nat->bI)->FP->Option α)->Option α
 | [],[],st,k=>k [] st .none
 | c::cs,v::vs,st,k=>Dm c v st λa b f1=>nQ cs vs b λl d f2=>k (a::l) d (f1.add f2)
 | _,_,_,_=>none
def out(i:TI)(v:AV)(st:Nat->bI)(k:AV->(Nat->bI)->FP->Option α):Option α :=
 match dv i.kind,v with
 | true,.agg cs=>nQ i.iN cs st λl a f=>k (.agg l) a f
 | false,v=>match i.iN with
  | [c]=>Dm c v st k
  | _=>none
 | _,_=>none
def Qc(i:TI)(v:AV)(st:Nat->bI)(k:AV->(Nat->bI)->FP->Option α):Option α :=
 match v with
 | .bJ=>k .bJ st .none
 | v=>out i v st k
def iU(x y:AV)(k:IntKind->Int->Int->Option α):Option α :=
 match x,y with
 | .int a n,.int b m=>bif a==b then k a n m else none
 | .u8 n,.u8 m=>k .u8 n.toNat m.toNat
 | _,_=>none
def mS:AV->AV->Option Bool
 | .int a n,.int b m=>bif a==b then Zz (n==m) else none
 | .u8 n,.u8 m=>Zz (n==m)
 | .bool a,.bool b=>Zz (a==b)
 | .str a,.str b=>Zz (a==b)
 | _,_=>none
def Rl(a b:Option Bool):Option Bool:=match a with
 | some x=>match b with
  | some y=>Zz (x&&y)
  | none=>none
 | none=>none
def dT:List AV->List AV->Option Bool
 | [],[]=>Zz Zn
 | [x],[y]=>mS x y
 | x::xs,y::ys=>Rl (mS x y) (dT xs ys)
 | _,_=>none
def sZ:AV->Option Int
 | .int _ n=>Zz n
 | .u8 b=>Zz b.toNat
 | _=>none
def nL(op:BinOp)(x y:AV):Option AV :=
 match op with
 | .shl=>match x,sZ y with
  | .int k n,Zz m=>ax (Zx (0<=m)) (Zz (.int k (k.wrap (n*2 ^ (min m.toNat k.bits)))))
  | .u8 n,Zz m=>ax (Zx (0<=m)) (Zz (oW .u8 (IntKind.u8.wrap ((n.toNat:Int)*2 ^ (min m.toNat 8)))))
  | _,_=>none
 | .shr=>match x,sZ y with
  | .int k n,Zz m=>ax (Zx (0<=m)) (Zz (.int k (n.fdiv (2 ^ (min m.toNat k.bits)))))
  | .u8 n,Zz m=>ax (Zx (0<=m)) (Zz (oW .u8 ((n.toNat:Int).fdiv (2 ^ (min m.toNat 8)))))
  | _,_=>none
 | .add=>match x,y with
  | .str a,.str b=>ax (Zx (a.length+b.length<=4611686018427387904)) (Zz (.str (a++b)))
  | x,y=>iU x y λk n m=>Zz (oW k (k.wrap (n+m)))
 | .sub=>iU x y λk n m=>Zz (oW k (k.wrap (n-m)))
 | .mul=>iU x y λk n m=>Zz (oW k (k.wrap (n*m)))
 | .quo=>iU x y λk n m=>ax (!(m==0)) (Zz (oW k (k.wrap (n.tdiv m))))
 | .rem=>iU x y λk n m=>ax (!(m==0)) (Zz (oW k (n.tmod m)))
 | .and=>iU x y λk n m=>Zz (oW k (k.wrap (BitVec.ofInt k.bits n &&& BitVec.ofInt k.bits m).toNat))
 | .or=>iU x y λk n m=>Zz (oW k (k.wrap (BitVec.ofInt k.bits n ||| BitVec.ofInt k.bits m).toNat))
 | .xor=>iU x y λk n m=>Zz (oW k (k.wrap (BitVec.ofInt k.bits n ^^^ BitVec.ofInt k.bits m).toNat))
 | .lss=>match x,y with
  | .str a,.str b=>Zz (.bool (Op.bytesLess a b))
  | x,y=>iU x y λ_ n m=>Zz (.bool (Zx (n<m)))
 | .leq=>match x,y with
  | .str a,.str b=>Zz (.bool (Op.bytesLess a b||a==b))
  | x,y=>iU x y λ_ n m=>Zz (.bool (Zx (n<=m)))
 | .gtr=>match x,y with
  | .str a,.str b=>Zz (.bool (!(Op.bytesLess a b||a==b)))
  | x,y=>iU x y λ_ n m=>Zz (.bool (Zx (n>m)))
 | .geq=>match x,y with
  | .str a,.str b=>Zz (.bool !(Op.bytesLess a b))
  | x,y=>iU x y λ_ n m=>Zz (.bool (Zx (n>=m)))
 | .eql=>match x,y with
  | .agg a,.agg b=>(dT a b).map .bool
  | x,y=>(mS x y).map .bool
 | .neq=>match x,y with
  | .agg a,.agg b=>(dT a b).map λc => .bool !c
  | x,y=>(mS x y).map λc => .bool !c
 | _=>none
def Ct(op:BinOp)(x y:AV):Option (Bool×AV) :=
 match op with
 | .shl=>match x,sZ y with
  | .int k n,Zz m=>Zz (Zx (0<=m),.int k (k.wrap (n*2 ^ (min m.toNat k.bits))))
  | .u8 n,Zz m=>Zz (Zx (0<=m),oW .u8 (IntKind.u8.wrap ((n.toNat:Int)*2 ^ (min m.toNat 8))))
  | _,_=>none
 | .shr=>match x,sZ y with
  | .int k n,Zz m=>Zz (Zx (0<=m),.int k (n.fdiv (2 ^ (min m.toNat k.bits))))
  | .u8 n,Zz m=>Zz (Zx (0<=m),oW .u8 ((n.toNat:Int).fdiv (2 ^ (min m.toNat 8))))
  | _,_=>none
 | .add=>match x,y with
  | .str a,.str b=>Zz (Zx (a.length+b.length<=4611686018427387904),.str (a++b))
  | x,y=>(nL .add x y).map λv=>(Zn,v)
 | .quo=>iU x y λk n m=>Zz (!(m==0),oW k (k.wrap (n.tdiv m)))
 | .rem=>iU x y λk n m=>Zz (!(m==0),oW k (n.tmod m))
 | op=>(nL op x y).map λv=>(Zn,v)
def mm2(mx:Bool)(x y:AV):Option AV :=
 match x,y with
 | .int a n,.int b m=>bif a==b then Zz (.int a (match mx with | true=>Kerb.imax n m | false=>Kerb.CQ n m)) else none
 | _,_=>none
def Dg(mx:Bool):AV->List AV->Option AV
 | x,[]=>match x with
  | .int k n=>Zz (.int k n)
  | _=>none
 | x,y::r=>(mm2 mx x y).bind λz=>Dg mx z r
def Tc(mx:Bool):List AV->Option AV
 | []=>none
 | x::r=>Dg mx x r
def aaV(op:UnOp)(x:AV):Option AV :=
 match op,x with
 | .not,.bool b=>Zz (.bool !b)
 | .neg,.int k n=>Zz (.int k (k.wrap (0-n)))
 | _,_=>none
def bytesOf(st:Nat->bI)(v:AV)(k:List UInt8->FP->Option α):Option α :=
 match v with
 | .bs l=>k l .none
 | .bJ=>k [] .none
 | .row r=>match st r with
  | .fm _ l _=>k l ⟨[r],[]⟩
  | _=>none
 | _=>none
def yF(sz:Nat)(st:Nat->bI)(v:AV)(k:List AV->FP->Option α):Option α :=
 match v with
 | .sl z l=>bif Zy z sz then k l .none else none
 | .bJ=>k [] .none
 | .row r=>match st r with
  | .cF _ z l _=>bif Zy z sz then k l ⟨[r],[]⟩ else none
  | _=>none
 | _=>none
def lenOf(st:Nat->bI)(v:AV)(k:Nat->FP->Option α):Option α :=
 match v with
 | .bs l=>k l.length .none
 | .sl _ l=>k l.length .none
 | .bJ=>k 0 .none
 | .bY _ a=>k a.length .none
 | .row r=>match st r with
  | .fm _ l _=>k l.length ⟨[r],[]⟩
  | .cF _ _ l _=>k l.length ⟨[r],[]⟩
  | _=>none
 | .bL r _ _=>match st r with
  | .jp _ _ l=>k l.length ⟨[r],[]⟩
  | _=>none
 | _=>none
def U4:List AV->Option (List UInt8)
 | []=>Zz []
 | .u8 b::r=>(U4 r).map (b :: ·)
 | _=>none
def place(cs:List AV)(off:Nat)(news:List AV):List AV:=cs.take off++news++cs.drop (off+news.length)
def tV:List AV->Nat->List AV->List AV
 | [],_,_=>[]
 | c::cs,0,n=>match n with
  | []=>c::cs
  | x::r=>x::tV cs 0 r
 | c::cs,k+1,n=>c::tV cs k n
def fill(a:Nat->Option (Nat×Nat)):List (Nat×AV)->List AV->Option (List AV)
 | [],cs=>Zz cs
 | (i,v)::r,cs=>match a i with
  | some q=>bif v.cells.length==q.2&&Zh (q.1+q.2) cs.length&&v.cells.all AV.d_ then fill a r (tV cs q.1 v.cells) else none
  | none=>none
end ops
def cU(E:Env)(fr:Fr):Operand->Option AV
 | .tmp t=>Zz (fr.aL t)
 | .const v=>Tj v
 | .global g=>(E.qU g).map .jX
 | .func f=>Zz (.fn f)
def gm(E:Env)(fr:Fr):List Operand->Option (List AV)
 | []=>Zz []
 | x::r=>match cU E fr x,gm E fr r with | some a,Zz l=>Zz (a::l) | _,_=>none
def iy(E:Env)(fr:Fr):List (Nat×Operand)->Option (List (Nat×AV))
 | []=>Zz []
 | (i,x)::r=>match cU E fr x,iy E fr r with | some a,Zz l=>Zz ((i,a)::l) | _,_=>none
section step
variable {α:Type} (E:Env) (fr:Fr)
def iV(t:Nat)(b:bI)(v:AV)(k:lM α):Option α :=
 match fr.st t with
 | .free=>k v (cQ fr.st t b) ⟨[t],[t]⟩
 | _=>none
def loadCells(i:TI)(cs:List AV)(k:AV->Option α):Option α :=
 bif Zh i.size cs.length then
  match dv i.kind with
  | true=>k (.agg (cs.take i.size))
  | false=>match cs with
   | c::_=>k c
   | []=>none
 else none
def ld(i:TI)(a:AV)(k:lM α):Option α :=
 match a with
 | .ptr b off=>match fr.st b with
  | .cells cs=>loadCells i (cs.drop off) λv=>k v fr.st ⟨[b],[]⟩
  | _=>none
 | .jX cs=>loadCells i cs λv=>k v fr.st .none
 | .pQ b off=>match i.kind with
  | .ptr _=>ax (Zy i.size 1) (k (.ptr b off) fr.st .none)
  | _=>none
 | .jQ b j c off=>match fr.st b with
  | .fm _ l _=>ax (Zq j l.length&&Zy off 0&&Zy c 1 && !dv i.kind) (k (.u8 (l.getD j 0)) fr.st ⟨[b],[]⟩)
  | .jG l _=>ax (Zq j l.length&&Zy off 0&&Zy c 1 && !dv i.kind) (k (.u8 (l.getD j 0)) fr.st ⟨[b],[]⟩)
  | .cF e z l _=>match E.ty e with
   | some d=>ax (Zq j l.length&&Zy z c) (norm d (l.getD j .undef) λv=>loadCells i (v.cells.drop off) λv=>k v fr.st ⟨[b],[]⟩)
   | none=>none
  | .jp e z l=>match E.ty e with
   | some d=>ax (Zq j l.length&&Zy z c) (norm d (l.getD j .undef) λv=>loadCells i (v.cells.drop off) λv=>k v fr.st ⟨[b],[]⟩)
   | none=>none
  | _=>none
 | _=>none
def uo(a:TI)(old:AV)(off:Nat)(news:List AV):AV:=match dv a.kind with
 | true => .agg (place old.cells off news)
 | false=>news.headD .undef
def oD(i:TI)(a v:AV)(k:lM α):Option α :=
 match a with
 | .ptr b off=>match fr.st b with
  | .cells cs=>bif v.cells.length==i.size&&Zh (off+i.size) cs.length&&v.cells.all AV.d_ then Aj (tV cs off v.cells) λl=>k .undef (cQ fr.st b (.cells l)) ⟨[b],[b]⟩ else none
  | _=>none
 | .jQ b j h off=>match fr.st b with
  | .fm e l iS=>v.qW λx=>ax (Zq j l.length&&Zy off 0&&Zy h 1&&Zy i.size 1 && !iS) (k .undef (cQ fr.st b (.fm e (l.set j x) Zv)) ⟨[b],[b]⟩)
  | .jG l iS=>v.qW λx=>ax (Zq j l.length&&Zy off 0&&Zy h 1&&Zy i.size 1 && !iS) (k .undef (cQ fr.st b (.jG (l.set j x) Zv)) ⟨[b],[b]⟩)
  | .cF e z l iS=>match E.ty e with
   | some f=>ax (Zq j l.length&&Zy z h && !iS) (out i v fr.st λv' g f1=>match g b with
    | .cF m d c Zv=>norm f (c.getD j .undef) λold =>
      ax (v'.cells.length==i.size&&Zh (off+i.size) old.cells.length&&Zq 0 i.size&&Zy d z&&Zq j c.length)
       (k .undef (cQ g b (.cF m d (c.set j (uo f old off v'.cells)) Zv)) (f1.add ⟨[b],[b]⟩))
    | _=>none)
   | none=>none
  | .jp e z l=>match E.ty e with
   | some f=>ax (Zq j l.length&&Zy z h) (out i v fr.st λv' g f1=>match g b with
    | .jp m d c=>norm f (c.getD j .undef) λold =>
      ax (v'.cells.length==i.size&&Zh (off+i.size) old.cells.length&&Zq 0 i.size&&Zy d z&&Zq j c.length)
       (k .undef (cQ g b (.jp m d (c.set j (uo f old off v'.cells)))) (f1.add ⟨[b],[b]⟩))
    | _=>none)
   | none=>none
  | _=>none
 | _=>none
def oM(q:Nat)(v:AV)(k:lM α):Option α :=
 match v with
 | .ptr b off=>k (.ptr b (off+q)) fr.st .none
 | .jX cs=>k (.jX (cs.drop q)) fr.st .none
 | .jQ b j a off=>k (.jQ b j a (off+q)) fr.st .none
 | _=>none
def tC(i:TI)(f:Nat):Option (Nat×Nat):=match i.kind with | .struct a=>a[f]? | _=>none
def Du:List Nat->Nat->(Nat->Option α)->Option α
 | [],_,_=>none
 | o::r,n,f=>aK (Zy n 0) (f o) (Du r (n-1) f)
def idx(v:AV):Option Int:=match v with | .int _ n=>Zz n | .u8 b=>Zz b.toNat | _=>none
def fa(i:TI)(x d:AV)(k:lM α):Option α :=
 match i.kind,x,idx d with
 | .slice e Zn,x,Zz n=>match x with
  | .bs l=>ax (Zx (0<=n)&&Zx (n<l.length)) (k (.jX [.u8 (l.getD n.toNat 0)]) fr.st .none)
  | .row r=>match fr.st r with
   | .fm _ l _=>ax (Zx (0<=n)&&Zx (n<l.length)) (k (.jQ r n.toNat 1 0) fr.st ⟨[r],[]⟩)
   | _=>none
  | _=>none
 | .slice e Zv,x,Zz n=>match E.ty e with
  | some a=>match x with
   | .sl z l=>ax (Zx (0<=n)&&Zx (n<l.length)&&Zy z a.size) (norm a (l.getD n.toNat .undef) λv=>k (.jX v.cells) fr.st .none)
   | .bY b c=>ax (Zx (0<=n)&&Zx (n<c.length)&&Zy a.size 1) (Du c n.toNat λo=>k (.pQ b o) fr.st .none)
   | .row r=>match fr.st r with
    | .cF _ z l _=>ax (Zx (0<=n)&&Zx (n<l.length)&&Zy z a.size) (k (.jQ r n.toNat z 0) fr.st ⟨[r],[]⟩)
    | _=>none
   | .bL r _ _=>match fr.st r with
    | .jp _ z l=>ax (Zx (0<=n)&&Zx (n<l.length)&&Zy z a.size) (k (.jQ r n.toNat z 0) fr.st ⟨[r],[]⟩)
    | _=>none
   | _=>none
  | none=>none
 | .c8 len e Zn,.ptr b 0,Zz n=>match fr.st b with
  | .jG l _=>ax (Zx (0<=n)&&Zx (n<l.length)&&Zy l.length len&&Zq 1 len) (k (.jQ b n.toNat 1 0) fr.st ⟨[b],[]⟩)
  | .cells _=>match E.ty e with
   | some a=>ax (Zx (0<=n)&&Zx (n<(len:Int))&&Zq 1 len) (k (.ptr b (0+n.toNat*a.size)) fr.st ⟨[b],[]⟩)
   | none=>none
  | _=>none
 | .c8 len e Zv,.ptr b off,Zz n=>match E.ty e with
  | some a=>ax (Zx (0<=n)&&Zx (n<(len:Int))&&Zq 1 len) (k (.ptr b (off+n.toNat*a.size)) fr.st .none)
  | none=>none
 | .c8 len e Zv,.jX cs,Zz n=>match E.ty e with
  | some a=>ax (Zx (0<=n)&&Zx (n<(len:Int))&&Zq 1 len&&Zy a.size 1&&Zh len cs.length) (norm a (cs.getD n.toNat .undef) λv=>k (.jX [v]) fr.st .none)
  | none=>none
 | _,_,_=>none
def yE(i:TI)(x a:AV)(k:lM α):Option α :=
 match i.kind,x,idx a with
 | .str,.str l,Zz n=>ax (Zx (0<=n)&&Zx (n<l.length)) (k (.u8 (l.getD n.toNat 0)) fr.st .none)
 | _,_,_=>none
def uY(v:Option AV)(d:Nat):Option Int:=match v with | none=>Zz (d:Int) | some v=>idx v
def v_(i:TI)(x:AV)(d f mx:Option AV)(k:lM α):Option α :=
 match mx with
 | some _=>none
 | none=>match i.kind with
  | .str=>x.fT λl=>match uY d 0,uY f l.length with
   | some a,Zz b=>ax (Zx (0<=a)&&Zx (a<=b)&&Zx (b<=l.length)) (k (.str ((l.take b.toNat).drop a.toNat)) fr.st .none)
   | _,_=>none
  | .slice e Zn=>Dm .c4 x fr.st λv st g=>v.dC λl=>match uY d 0,uY f l.length with
   | some a,Zz b=>ax (Zx (0<=a)&&Zx (a<=b)&&Zx (b<=l.length)) (k (.bs ((l.take b.toNat).drop a.toNat)) st g)
   | _,_=>none
  | .slice e Zv=>match E.ty e with
   | some h=>Dm (.sl h.size) x fr.st λv st g=>v.fN h.size λl=>match uY d 0,uY f l.length with
    | some a,Zz b=>ax (Zx (0<=a)&&Zx (a<=b)&&Zx (b<=l.length)) (k (.sl h.size ((l.take b.toNat).drop a.toNat)) st g)
    | _,_=>none
   | none=>none
  | .c8 n e Zn=>match x with
   | .ptr b 0=>match fr.st b with
    | .jG l _=>match uY d 0,uY f l.length with
     | some a,Zz c=>ax (Zx (0<=a)&&Zx (a<=c)&&Zx (c<=l.length)&&Zy l.length n) (k (.bs ((l.take c.toNat).drop a.toNat)) (cQ fr.st b (.jG l Zn)) ⟨[b],[b]⟩)
     | _,_=>none
    | _=>none
   | _=>none
  | _=>none
def vj(i:TI)(x:AV)(d:Option AV)(f m:AV)(k:lM α):Option α :=
 match i.kind with
 | .slice e Zn=>Dm .c4 x fr.st λv st g=>v.dC λl=>match uY d 0,idx f,idx m with
  | some a,Zz b,Zz c=>ax (Zx (0<=a)&&Zx (a<=b)&&Zx (b<=c)&&Zx (c<=l.length)) (k (.bs ((l.take b.toNat).drop a.toNat)) st g)
  | _,_,_=>none
 | .slice e Zv=>match E.ty e,d,idx f,idx m with
  | some _,none,Zz b,Zz c=>ax (b==0&&c==0) (match x with
   | .sl _ _=>k .bJ fr.st .none
   | .bJ=>k .bJ fr.st .none
   | .row _=>k .bJ fr.st .none
   | _=>none)
  | _,_,_,_=>none
 | _=>none
def vk(i:TI)(x:AV)(c d:Option AV)(k:lM α):Option α :=
 match i.kind,x with
 | .slice _ Zn,.row r=>match fr.st r with
  | .fm _ l p=>match c,d with
   | none,Zz h=>match idx h with
    | some b=>ax (Zx (0<=b)&&Zx (b<=l.length)&&Zq 0 l.length && !p) (k (.pre r b.toNat) fr.st ⟨[r],[]⟩)
    | none=>none
   | some a,none=>match idx a with
    | some a=>ax (Zx (0<=a)&&Zx (a<=l.length)&&Zq 0 l.length && !p) (k (.Ei r a.toNat 1) fr.st ⟨[r],[]⟩)
    | none=>none
   | _,_=>none
  | _=>none
 | .slice e Zv,.row r=>match E.ty e with
  | none=>none
  | some f=>match fr.st r with
   | .cF _ z l p=>match c,d with
    | none,Zz h=>match idx h with
     | some b=>ax (Zx (0<=b)&&Zx (b<=l.length)&&Zq 0 l.length && !p&&Zy z f.size&&Zq 0 z) (k (.pre r b.toNat) fr.st ⟨[r],[]⟩)
     | none=>none
    | some a,none=>match idx a with
     | some a=>ax (Zx (0<=a)&&Zx (a<=l.length)&&Zq 0 l.length && !p&&Zy z f.size&&Zq 0 z) (k (.Ei r a.toNat z) fr.st ⟨[r],[]⟩)
     | none=>none
    | _,_=>none
   | _=>none
 | _,_=>none
def sg(t:Nat)(a:TI)(k:lM α):Option α :=
 match zj a with
 | some q=>iV fr t (.oV q.1 q.2 []) (.mp t) k
 | none=>none
def qt(c a:TI)(m q:AV)(ok:Bool)(k:lM α):Option α :=
 match m with
 | .mp b=>match fr.st b with
  | .oV s kd els=>match zj c with
   | some z=>ax ((z.1==s)&&(z.2==kd)&&rn s kd q) (norm a (Kerb.getM q els (zeroV a)) λv=>match ok with
    | true=>k (.bp [v,.bool (Kerb.Uy q els)]) fr.st ⟨[b],[]⟩
    | false=>k v fr.st ⟨[b],[]⟩)
   | none=>none
  | _=>none
 | _=>none
def sj(c d:TI)(m q x:AV)(k:lM α):Option α :=
 match m with
 | .mp b=>match fr.st b with
  | .oV s kd els=>match zj c with
   | some z=>ax ((z.1==s)&&(z.2==kd)&&rn s kd q) (out d x fr.st λv a f1=>match a b with
    | .oV s1 f e=>ax ((s1==s)&&(f==kd)) (k .undef (cQ a b (.oV s kd (Kerb.pR q v e))) (f1.add ⟨[b],[b]⟩))
    | _=>none)
   | none=>none
  | _=>none
 | _=>none
def sf(s d:TI)(x:AV)(k:lM α):Option α :=
 match d.kind with
 | .int kd=>match idx x with
  | some n=>k (.int kd (kd.wrap n)) fr.st .none
  | none=>none
 | .u8=>match idx x with
  | some n=>k (oW .u8 (IntKind.u8.wrap n)) fr.st .none
  | none=>none
 | .str=>match s.kind with
  | .str=>x.fT λl=>k (.str l) fr.st .none
  | .slice _ Zn=>bytesOf fr.st x λl a=>k (.str l) fr.st a
  | _=>none
 | .slice _ Zn=>match s.kind with
  | .str=>x.fT λl=>k (.bs l) fr.st .none
  | _=>none
 | _=>none
def room(n bytes:Nat):Bool:=Zh (n*bytes) 140737488355328&&Zh n 140737488355328
def Gu(t e:Nat)(s:AV)(new:List UInt8)(a:FP)(k:lM α):Option α :=
 match s with
 | .bJ=>ax (room new.length 1) (k (.row t) (cQ fr.st t (.fm e new Zv)) ⟨t::a.rd,[t]⟩)
 | .row r=>match fr.st r with
  | .fm e' l p=>ax (Zy e e'&&room (l.length+new.length) 1) (k (.row t) (cQ (cQ fr.st r .dead) t (.fm e (l++new) p)) ⟨t::r::a.rd,[t,r]⟩)
  | _=>none
 | _=>none
def Lt(t e:Nat)(a:TI)(s:AV)(new:List AV)(b:FP)(k:lM α):Option α :=
 match s with
 | .bJ=>ax (Zq 0 a.size&&room new.length a.bytes) (k (.row t) (cQ fr.st t (.cF e a.size new Zv)) ⟨t::b.rd,[t]⟩)
 | .row r=>match fr.st r with
  | .cF e' z l p=>ax (Zy e e'&&Zy z a.size&&room (l.length+new.length) a.bytes) (k (.row t) (cQ (cQ fr.st r .dead) t (.cF e a.size (l++new) p)) ⟨t::r::b.rd,[t,r]⟩)
  | _=>none
 | _=>none
def OZ(t e:Nat)(s:AV)(r m z:Nat)(k:lM α):Option α :=
 match s with
 | .pre a n=>match fr.st r with
  | .fm e' l p=>ax (Zq 0 l.length&&Zy r a&&Zy e e' && !p&&Zy z 1&&room (n+(l.length-m)) 1) (k (.row t) (cQ (cQ fr.st r .dead) t (.fm e (l.take n++l.drop m) Zv)) ⟨[t,r],[t,r]⟩)
  | _=>none
 | _=>none
def ade(t e:Nat)(a:TI)(s:AV)(r m z:Nat)(k:lM α):Option α :=
 match s with
 | .pre b n=>match fr.st r with
  | .cF e' y l p=>ax (Zq 0 l.length&&Zy r b&&Zy e e'&&Zy y a.size&&Zy z a.size&&Zq 0 z && !p&&room (n+(l.length-m)) a.bytes) (k (.row t) (cQ (cQ fr.st r .dead) t (.cF e a.size (l.take n++l.drop m) Zv)) ⟨[t,r],[t,r]⟩)
  | _=>none
 | _=>none
def la(t:Nat)(i:TI)(s x:AV)(k:lM α):Option α :=
 match fr.st t with
 | .free=>match i.kind with
  | .slice e Zn=>match x with
   | .str l=>Gu fr t e s l .none k
   | .Ei r m z=>OZ fr t e s r m z k
   | x=>bytesOf fr.st x λnew a=>Gu fr t e s new a k
  | .slice e Zv=>match E.ty e with
   | none=>none
   | some b=>match x with
    | .Ei r m z=>ade fr t e b s r m z k
    | x=>yF b.size fr.st x λnew a=>Lt fr t e b s new a k
  | _=>none
 | _=>none
def oZ(b:TI):List (Nat×AV)->(Nat->bI)->(List (Nat×AV)->(Nat->bI)->FP->Option α)->Option α
 | [],st,k=>k [] st .none
 | (i,v)::r,st,k=>out b v st λa c f1=>oZ b r c λl d f2=>k ((i,a)::l) d (f1.add f2)
def gG:Nat->List (Nat×AV)->Option (List AV)
 | _,[]=>Zz []
 | j,(i,v)::r=>bif Zy i j then(gG (j+1) r).map (v :: ·) else none
def G3:List (Nat×AV)->Option Nat
 | (_,.ptr k _)::_=>Zz k
 | _=>none
def AB(b:Nat):Nat->List (Nat×AV)->Option (List Nat)
 | _,[]=>Zz []
 | j,(i,.ptr k off)::r=>bif Zy i j&&Zy k b then(AB b (j+1) r).map (off :: ·) else none
 | _,_=>none
def Cu(t:Nat)(i:TI)(l c:AV)(k:lM α):Option α :=
 match i.kind,idx l,idx c with
 | .slice e Zn,Zz n,Zz m=>ax (Zx (0<=n)&&Zx (n<=m)&&Zx (m<=140737488355328)) (iV fr t (.fm e (List.replicate n.toNat 0) Zv) (.row t) k)
 | _,_,_=>none
def qp(d:Nat)(i:TI)(len:Nat)(parts:List (Nat×AV))(k:lM α):Option α :=
 match i.kind with
 | .slice e Zn=>match gG 0 parts with
  | some els=>match U4 els with
   | some l=>bif Zy parts.length len&&Zh len 16777216&&Zq 0 len then iV fr d (.fm e l Zv) (.row d) k else none
   | none=>none
  | none=>none
 | .slice e Zv=>match E.ty e,gG 0 parts with
  | some a,Zz _=>bif Zy parts.length len&&Zh (len*a.size) 16777216&&Zq 0 a.size&&Zq 0 len then oZ a parts fr.st λps st b =>
    match gG 0 ps with
    | some els=>bif els.all (λx=>Zy x.cells.length a.size) then iV ⟨fr.aL,st⟩ d (.cF e a.size els Zv) (.row d) λv c f2=>k v c (b.add f2) else none
    | none=>none
   else none
  | _,_=>none
 | _=>none
def mV(i:TI)(len:Nat)(parts:List (Nat×AV))(k:lM α):Option α :=
  match i.kind with
  | .slice e byte=>match len with
    | 0=>match parts,E.ty e with
      | [],Zz _=>k .bJ fr.st .none
      | _,_=>none
    | _+1=>match G3 parts with
     | some b=>match byte,E.ty e,AB b 0 parts with
      | false,Zz a,Zz d=>bif Zy parts.length len&&Zy a.size 1&&Zh len 16777216 then k (.bY b d) fr.st .none else none
      | _,_,_=>none
     | none=>match E.ty e,gG 0 parts with
      | some a,Zz _=>bif Zy parts.length len&&Zh (len*a.size) 16777216&&Zq 0 a.size then oZ a parts fr.st λps st c =>
          match gG 0 ps with
          | some els=>match byte with
            | true=>match U4 els with
              | some l=>k (.bs l) st c
              | none=>none
            | false=>bif els.all (λx=>Zy x.cells.length a.size) then k (.sl a.size els) st c else none
          | none=>none
        else none
      | _,_=>none
  | _=>none
def adK(ty:Nat):Option TI:=match E.ty ty with
 | some i=>match i.kind with
  | .ptr e=>E.ty e
  | _=>Zz i
 | none=>none
def eV(f:Nat):Nat->List Nat->List AV->(Nat->bI)->(List AV->List (Nat×Nat×List AV)->(Nat->bI)->FP->Option α)->Option α
 | _,[],[],st,k=>k [] [] st .none
 | j,ty::d,v::vs,st,k=>match v with
  | .ptr b off=>match st b with
   | .cells cs=>match adK E ty with
    | some h=>bif off==0&&h.size==cs.length then nQ h.iN cs st λn g f1 =>
      eV f (j+1) d vs g λl bl c f2=>bif bl.any (λx=>x.2.1==b) then none else k (.ptr j 0::l) ((j,b,n)::bl) c (FP.add ⟨b::f1.rd,b::f1.wr⟩ f2)
     else none
    | none=>none
   | _=>none
  | .bL r e z=>eV f (j+1) d vs st λl bl c f2=>match c r with
   | .jp e' m els=>bif Zy e e'&&Zy z m && !bl.any (λx=>x.2.1==r) then k (.bL j e z::l) ((j,r,els)::bl) c (FP.add ⟨[r],[r]⟩ f2) else none
   | _=>none
  | v=>match E.own (1000000+f*64+j) with
   | true=>match v with
    | .row r=>eV f (j+1) d vs st λl bl c f2=>match c r with
     | .cF e z els Zv=>ax (Zq 0 els.length) (bif !bl.any (λx=>x.2.1==r) then k (.bL j e z::l) ((j,r,els)::bl) c (FP.add ⟨[r],[r]⟩ f2) else none)
     | _=>none
    | _=>none
   | false=>match E.ty ty with
    | some i=>Qc i v st λa g f1=>eV f (j+1) d vs g λl bl c f2=>k (a::l) bl c (f1.add f2)
    | none=>none
 | _,_,_,_,_=>none
def RY(ty:Nat->Option TI):Nat->Nat->List Nat
 | 0,t=>[t]
 | m+1,t=>match ty t with
  | some i=>match i.kind with
   | .struct a=>a.flatMap λf=>RY ty m f.2
   | _=>[t]
  | none=>[t]
def agd(ty:Nat->Option TI):List Nat->Nat->Option (Nat×Nat×TI)
 | [],_=>none
 | t::r,n=>match ty t with
  | some i=>match i.kind with
   | .slice e Zv=>match ty e with
    | some a=>Zz (n,e,a)
    | none=>none
   | _=>agd ty r (n+1)
  | none=>none
def TT(ty:Nat->Option TI)(a:List (Nat×Nat)):Option (Nat×Nat×TI):=agd ty (a.flatMap λf=>RY ty 5 f.2) 0
def sN(t:Nat):Nat->List CT->List AV->(List AV->List AV->Option α)->Option α
 | 0,_::b,v,k=>ar v λx r=>x.aS λl=>rN b r λa=>k (.row t::a) l
 | j+1,c::b,v,k=>ar v λx r=>gq c x λd=>sN t j b r λa l=>k (d::a) l
 | _,[],_,_=>none
def JC(b:List (Nat×Nat))(t:Nat)(i:TI)(v:AV)(st:Nat->bI)(k:AV->(Nat->bI)->FP->Option α):Option α :=
 match TT E.ty b with
 | some (j,e,c)=>match st t with
  | .free=>v.dt λcs=>sN t j i.iN cs λa l=>k (.agg a) (cQ st t (.cF e c.size l Zv)) ⟨[t],[t]⟩
  | _=>none
 | none=>norm i v λv'=>k v' st .none
def ug(own:Bool)(t:Nat)(i:TI)(v:AV)(st:Nat->bI)(k:AV->(Nat->bI)->FP->Option α):Option α :=
 match own,i.kind with
 | true,.slice e Zn=>match st t with
  | .free=>v.fS λl=>k (.row t) (cQ st t (.fm e l Zv)) ⟨[t],[t]⟩
  | _=>none
 | true,.slice e Zv=>match st t,E.ty e with
  | .free,Zz b=>v.aS λl=>k (.row t) (cQ st t (.cF e b.size l Zv)) ⟨[t],[t]⟩
  | _,_=>none
 | true,.struct a=>JC E a t i v st k
 | _,_=>norm i v λv'=>k v' st .none
def nb(own:Bool)(t:Nat):List Nat->List AV->(Nat->bI)->(List AV->(Nat->bI)->FP->Option α)->Option α
 | [],l,st,k=>ak l (k [] st .none)
 | ty::b,l,st,k=>match E.ty ty with
  | some i=>ar l λv r=>ug E own t i v st λa d f1=>nb Zv (t+4096) b r d λc e f2=>k (a::c) e (f1.add f2)
  | none=>none
def zA(o v:AV)(k:AV->Option α):Option α :=
 match o with
 | .int kd _=>v.aw kd λn=>k (.int kd n)
 | .u8 _=>v.qW λb=>k (.u8 b)
 | .bool _=>v.dw λb=>k (.bool b)
 | .str _=>v.fT λb=>k (.str b)
 | .bs _=>v.dC λb=>k (.bs b)
 | .sl z _=>v.fN z λb=>k (.sl z b)
 | _=>k v
def qa:List AV->List AV->(List AV->Option α)->Option α
 | [],l,k=>ak l (k [])
 | o::os,l,k=>ar l λx r=>zA o x λa=>qa os r λb=>k (a::b)
def DB:bI->List AV->bI
 | .cF e z _ p,cs => .cF e z cs p
 | .jp e z _,cs => .jp e z cs
 | _,cs => .cells cs
def isRow:bI->Bool
 | .cF .. => Zn
 | .jp .. => Zn
 | _=>Zv
def na:List (Nat×Nat×List AV)->aO->(Nat->bI)->((Nat->bI)->Option α)->Option α
 | [],bs,st,k=>aE bs (k st)
 | (_,b,old)::r,bs,st,k=>aJ bs λcs a=>match isRow (st b) with
  | true=>na r a (cQ st b (DB (st b) cs)) k
  | false=>qa old cs λc=>na r a (cQ st b (DB (st b) c)) k
end step
def vh{α:Type}(E:Env)(fr:Fr)(rts:Nat->Option (List Nat))(t:Nat)(f:Nat)(b:List Nat)(args:List AV)(k:lM α):Option α :=
 match rts f with
 | none=>none
 | some rt=>eV E f 0 b args fr.st λas bl st c =>
  (E.call f as (bl.map λx=>(x.1,x.2.2))).bind λr=>na bl r.2 st λd =>
   match rt with
   | [ty]=>match E.ty ty with
    | some i=>ug E (E.own f) t i r.1 d λv a f2=>k v a (c.add f2)
    | none=>none
   | rt=>r.1.gJ λvs=>nb E (E.own f) t rt vs d λl a f2=>k (.bp l) a (c.add f2)
end Go.Abs
/- The abstract interpreter: operations dispatched, regions, code, calls. -/
namespace Go.Abs
def eD{σ ρ:Type}(step:σ->Option (σ ⊕ ρ)):Nat->σ->Option ρ
 | 0,_=>none
 | n+1,s=>match step s with
  | some (.inl s')=>eD step n s'
  | some (.inr r)=>Zz r
  | none=>none
open Classical in
noncomputable def bh{σ ρ:Type}(step:σ->Option (σ ⊕ ρ))(s:σ):Option ρ :=
 if h:∃ n r,eD step n s=Zz r then Zz (Classical.choose (Classical.choose_spec h)) else none
def Hc:bI->Bool
 | .free=>Zn
 | _=>Zv
def Co:AV->List Nat
 | .row k=>[k]
 | .ptr k _=>[k]
 | .jQ k .. => [k]
 | .bY k _=>[k]
 | .pQ k _=>[k]
 | .pre k _=>[k]
 | .Ei k .. => [k]
 | .A1 _ a cs=>a.map (·.1)++cs.map (·.1)
 | .mp k=>[k]
 | .bL k .. => [k]
 | _=>[]
def Rt:AV->List Nat
 | .agg cs=>cs.flatMap Co
 | v=>Co v
def yw:bI->List Nat
 | .cells cs=>cs.flatMap Co
 | _=>[]
def reach(st:Nat->bI):Nat->List Nat->List Nat
 | 0,ks=>ks
 | m+1,ks=>ks++reach st m (ks.flatMap λk=>yw (st k))
theorem yf{s s2:Nat->bI}:∀ {m:Nat} {ks:List Nat},(∀ x∈reach s m ks,s2 x=s x)->reach s2 m ks=reach s m ks
 | 0,ks,h=>rfl
 | m+1,ks,h=>by
  simp only[reach,List.mem_append] at h ⊢;have e:(ks.flatMap λk=>yw (s2 k))=ks.flatMap λk=>yw (s k):=by
   have:∀ l:List Nat,(∀ x∈l,s2 x=s x)->(l.flatMap λk=>yw (s2 k))=l.flatMap λk=>yw (s k):=by
    intro l;induction l with
    | nil=>intro _;rfl
    | cons y l ih =>
     intro hl;rw[Zg,Zg,hl y (by simp),ih λx a=>hl x (by simp[a])]
   exact this ks λx a=>h x (.inl a)
  rw[e,yf λx a=>h x (.inr a)]
def fk(kb t:Nat):Nat:=match kb with
 | 0=>(t+1)*100000
 | m+1=>(m+1+t+1)*100000
def Oc:Nat->List Nat->Nat
 | b,[]=>b
 | b,[d]=>b+d
 | b,p::r=>Oc (fk b p) r
def sF(kb:Nat):List i_->List Nat
 | []=>[]
 | .bY t m ds::r=>(match m with
  | 0=>ds.map (fk kb t + ·)
  | 1=>[Oc (fk kb t) ds]
  | _=>(kb+t)::ds.map (kb + ·))++sF kb r
 | .ptr t u d::r=>(fk (fk kb t) u+d)::sF kb r
 | .val d _::r=>d::sF kb r
 | _::r=>sF kb r
def j_(st:Nat->bI)(vs:List AV)(kb:Nat)(hs:List i_):List Nat:=reach st 3 (vs.flatMap Rt)++sF kb hs
def NZ(c:CT)(v:AV):Bool:=match c,v with
 | .bool,.bool _=>Zn
 | .int k,.int k' _=>k==k'
 | _,_=>Zv
def C0(c:CT)(v:AV)(a:FP)(A:List Nat)(st:Nat->bI):Bool:=NZ c v&&a.rd.all (λx=>A.contains x)&&a.wr.all λx=>A.contains x&&Hc (st x)
def Fg{α:Type}(run:Ca)(c:CT)(hs:List i_)(kb:Nat)(vs:List AV)(st:Nat->bI)(k:lM α):Option α :=
 (run.run (List AV) kb vs st λv _ a=>ax (C0 c v a (j_ st vs kb hs) st) (Zz [v])).bind λl =>
  ar l λv r=>ak r (gq c v λv'=>k v' st ⟨j_ st vs kb hs,[]⟩)
def Cm{α:Type}(h:List i_)(run:Ca)(kb:Nat)(vs:List AV)(st:Nat->bI)(k:lM α):Option α :=
 match h with
 | .cells _ [c]::a=>Fg run c a kb vs st k
 | _=>run.run α kb vs st k
section
variable {α:Type} (E:Env) (rts:Nat->Option (List Nat))
variable {ρ:Type}
def I4(fr:Fr)(i:TI)(v:AV)(k:lM α):Option α :=
 match i.kind with
 | .str=>v.fT λl=>k (.int AI l.length) fr.st .none
 | .slice _ _=>lenOf fr.st v λn a=>k (.int AI n) fr.st a
 | _=>none
def GN(i:TI)(op:BinOp)(a b:AV):Option AV :=
 match a with
 | .agg cs=>match i.F6 with
  | []=>none
  | c::r=>bif eS (c::r) cs&&dv i.kind then nL op a b else none
 | .bool _=>match i.kind with
  | .bool=>nL op a b
  | _=>none
 | .undef=>none
 | .bp _=>none
 | a=>nL op a b
def GP(i:TI)(op:BinOp)(a b:AV):Option (Bool×AV) :=
 match a with
 | .agg cs=>match i.F6 with
  | []=>none
  | c::r=>bif eS (c::r) cs&&dv i.kind then Ct op a b else none
 | .bool _=>match i.kind with
  | .bool=>Ct op a b
  | _=>none
 | .undef=>none
 | .bp _=>none
 | a=>Ct op a b
def yD(i:TI)(fr:Fr)(parts:List (Nat×AV))(k:lM α):Option α :=
 match i.kind with
 | .struct a=>match fill (λj=>(a[j]?).bind λf=>(E.ty f.2).map λb=>(f.1,b.size)) parts i.zero with
  | some cs=>k (.agg cs) fr.st .none
  | none=>none
 | _=>none
def Ec(d:Option Nat):Bool :=
 match d with
 | some t=>match E.keep (1000000+t) with
  | []=>Zv
  | _::_=>Zn
 | none=>Zv
def Gz(f:Nat):List Nat:=(E.keep (7000000+f)).filterMap λ| .val _ ty=>Zz ty | _=>none
def vi(fr:Fr)(o:Oper)(k:lM α):Option α :=
 match o.op with
 | .move x=>(cU E fr x).bind λv=>k v fr.st .none
 | .assign x=>(cU E fr x).bind λv=>k v fr.st .none
 | .pick c a b=>(cU E fr c).bind λv=>v.dw λt=>aK t ((cU E fr a).bind λv=>k v fr.st .none) ((cU E fr b).bind λv=>k v fr.st .none)
 | .alloc e=>(E.ty e).bind λi=>match o.dst with
  | some t=>match i.kind with
   | .c8 _ _ Zn=>(U4 i.zero).bind λl=>iV fr (E.kb+t) (.jG l Zv) (.ptr (E.kb+t) 0) k
   | _=>iV fr (E.kb+t) (.cells i.zero) (.ptr (E.kb+t) 0) k
  | none=>none
 | .box e x=>(E.ty e).bind λi=>(cU E fr x).bind λv=>match o.dst with
  | some t=>bif v.cells.length==i.size&&v.cells.all AV.d_ then Aj v.cells λl=>iV fr (E.kb+t) (.cells l) (.ptr (E.kb+t) 0) k else none
  | none=>none
 | .build t parts=>(E.ty t).bind λi=>(iy E fr parts.toList).bind λps=>yD E i fr ps k
 | .buildSlice t len parts=>(E.ty t).bind λi=>(iy E fr parts.toList).bind λps=>match Ec E o.dst,o.dst with
  | true,Zz d=>qp E fr (E.kb+d) i len ps k
  | _,_=>mV E fr i len ps k
 | .makeSlice t l c=>(E.ty t).bind λi=>(cU E fr l).bind λn=>(cU E fr c).bind λm=>match o.dst with
  | some d=>Cu fr (E.kb+d) i n m k
  | none=>none
 | .load t a=>(E.ty t).bind λi=>(cU E fr a).bind λv=>ld E fr i v k
 | .store t a x=>(E.ty t).bind λi=>(cU E fr a).bind λp=>(cU E fr x).bind λv=>oD E fr i p v k
 | .nilCheck x=>(cU E fr x).bind λv=>match v with
  | .ptr a b=>k (.ptr a b) fr.st .none
  | .jX l=>k (.jX l) fr.st .none
  | .jQ a b c d=>k (.jQ a b c d) fr.st .none
  | _=>none
 | .binOp op t x y _=>(E.ty t).bind λi=>(cU E fr x).bind λa=>(cU E fr y).bind λb=>(GP i op a b).bind λx=>ax x.1 (k x.2 fr.st .none)
 | .unOp op _ x=>(cU E fr x).bind λa=>(aaV op a).bind λv=>k v fr.st .none
 | .convert s d x=>(E.ty s).bind λD=>(E.ty d).bind λL=>(cU E fr x).bind λv=>sf fr D L v k
 | .slice t x I J H=>(E.ty t).bind λi=>(cU E fr x).bind λv =>
   match I.map (cU E fr),J.map (cU E fr),H.map (cU E fr) with
   | some none,_,_=>none
   | _,Zz none,_=>none
   | _,_,Zz none=>none
   | a,Zz (Zz b),Zz (Zz m)=>vj E fr i v (a.bind id) b m k
   | _,none,Zz (Zz _)=>none
   | a,b,none=>match Ec E o.dst with
    | true=>vk E fr i v (a.bind id) (b.bind id) k
    | false=>v_ E fr i v (a.bind id) (b.bind id) none k
 | .fieldAddr t x f=>(E.ty t).bind λi=>(tC i f).bind λp=>(cU E fr x).bind λv=>oM fr p.1 v k
 | .field t x f=>(E.ty t).bind λi=>(tC i f).bind λp=>(E.ty p.2).bind λK=>(cU E fr x).bind λv=>v.dt λcs=>loadCells K (cs.drop p.1) λv=>k v fr.st .none
 | .indexAddr t x w=>(E.ty t).bind λi=>(cU E fr x).bind λv=>(cU E fr w).bind λn=>fa E fr i v n k
 | .index t x w=>(E.ty t).bind λi=>(cU E fr x).bind λv=>(cU E fr w).bind λn=>yE fr i v n k
 | .makeFunc fn g cs=>match fn with
  | .func f=>(gm E fr g.toList).bind λa=>(gm E fr cs.toList).bind λb=>(Tr a).bind λG=>(Tr b).bind λF=>k (.A1 f G F) fr.st .none
  | _=>none
 | .makeMap t r=>match r,o.dst with
  | none,Zz d=>(E.ty t).bind λi=>match i.kind with
   | .map h _=>(E.ty h).bind λu=>sg fr (E.kb+d) u k
   | _=>none
  | _,_=>none
 | .lookup t x q ok=>(E.ty t).bind λi=>match i.kind with
  | .map h A=>(E.ty h).bind λu=>(E.ty A).bind λB=>(cU E fr x).bind λm=>(cU E fr q).bind λv=>qt fr u B m v ok k
  | _=>none
 | .mapUpdate t x q y=>(E.ty t).bind λi=>match i.kind with
  | .map h A=>(E.ty h).bind λu=>(E.ty A).bind λB=>(cU E fr x).bind λm=>(cU E fr q).bind λv=>(cU E fr y).bind λz=>sj fr u B m v z k
  | _=>none
 | .extract x j=>(cU E fr x).bind λv=>v.gJ λvs=>match vs[j]? with
  | some v=>k v fr.st .none
  | none=>none
 | .call c=>match c.callee with
  | .builtin .len=>(gm E fr c.args.toList).bind λvs=>match vs,c.argTypes.toList with
   | [v],[ty]=>(E.ty ty).bind λi=>I4 fr i v k
   | _,_=>none
  | .builtin .append=>(gm E fr c.args.toList).bind λvs=>match vs,c.argTypes.toList,o.dst with
   | [s,x],[ty,tx],Zz t=>(E.ty ty).bind λi=>(E.ty tx).bind λC=>match C.kind with
    | .slice _ _=>la E fr (E.kb+t) i s x k
    | .str=>la E fr (E.kb+t) i s x k
    | _=>none
   | _,_,_=>none
  | .builtin .min=>(gm E fr c.args.toList).bind λvs=>(Tc Zv vs).bind λv=>k v fr.st .none
  | .builtin .max=>(gm E fr c.args.toList).bind λvs=>(Tc Zn vs).bind λv=>k v fr.st .none
  | .value (.func f)=>(gm E fr c.args.toList).bind λvs=>match o.dst with
   | some t=>match E.inl f with
    | some run=>Cm (E.keep (8000000+f)) run (fk E.kb t) vs fr.st k
    | none=>vh E fr rts (E.kb+t) f c.argTypes.toList vs k
   | none=>none
  | .value (.tmp s)=>(cU E fr (.tmp s)).bind λv=>v.Oa λf g cs=>(gm E fr c.args.toList).bind λvs=>match o.dst with
   | some t=>match E.inl f with
    | some run=>Cm (E.keep (8000000+f)) run (fk E.kb t) (mv g++vs++mv cs) fr.st k
    | none=>vh E fr rts (E.kb+t) f ((Gz E f).take g.length++c.argTypes.toList++(Gz E f).drop g.length) (mv g++vs++mv cs) k
   | none=>none
  | _=>none
 | _=>none
def eT(fr:Fr)(n:Nat)(d:Option Nat)(v:AV)(st:Nat->bI)(k:Fr->Option α):Option α :=
 match d with
 | some t=>bif Zq t n then R2 v λv=>k ⟨cQ fr.aL t v,st⟩ else none
 | none=>k ⟨fr.aL,st⟩
theorem mG(fr:Fr)(n:Nat)(d:Option Nat)(v:AV)(st:Nat->bI)(k:Fr->Option α):eT fr n d v st k=(match d with
 | some t=>bif Zq t n then k ⟨cQ fr.aL t v,st⟩ else none
 | none=>k ⟨fr.aL,st⟩):=by
 unfold eT;cases d with
 | none=>rfl
 | some t=>simp only[Pm]
def nZ(ops:List Oper)(j:Nat):Option Nat:=(ops[j]?).bind (·.dst)
def fF(n:Nat)(all:List Oper):List Oper->Fr->(Fr->List FP->Option α)->Option α
 | [],fr,k=>k fr []
 | o::os,fr,k =>
  match o.guard with
  | none=>vi E rts fr o λv st e=>eT fr n o.dst v st λd=>fF n all os d λc a=>k c (e::a)
  | some (j,want)=>match nZ all j with
   | none=>none
   | some g=>(fr.aL g).pM (λb =>
    aK b
     (match want with
      | true=>vi E rts ⟨cQ fr.aL g (.bool Zn),fr.st⟩ o λv st e=>eT ⟨cQ fr.aL g (.bool Zn),fr.st⟩ n o.dst v st λd=>fF n all os d λc a=>k c (e::a)
      | false=>eT ⟨cQ fr.aL g (.bool Zn),fr.st⟩ n o.dst (.bp []) fr.st λd=>fF n all os d λc a=>k c (.none::a))
     (match want with
      | false=>vi E rts ⟨cQ fr.aL g (.bool Zv),fr.st⟩ o λv st e=>eT ⟨cQ fr.aL g (.bool Zv),fr.st⟩ n o.dst v st λd=>fF n all os d λc a=>k c (e::a)
      | true=>eT ⟨cQ fr.aL g (.bool Zv),fr.st⟩ n o.dst (.bp []) fr.st λd=>fF n all os d λc a=>k c (.none::a)))
    (eT fr n o.dst (.bp []) fr.st λd=>fF n all os d λc a=>k c (.none::a))
def ins(l:List Nat)(i:Nat):List Nat:=bif l.contains i then l else i::l
def BL(ops:List Oper):List (List Nat) :=
 ops.foldl (λacc o=>acc++[o.after.toList.foldl (λl e=>if Region.binds .any e then ins (((acc[e.on]?).getD []).foldl ins l) e.on else l) []]) []
def FP.apart(a b:FP):Bool:=a.wr.all (λx => !b.rd.contains x && !b.wr.contains x)&&b.wr.all (λx => !a.rd.contains x)
def slotsOf(o:Oper):List Nat:=o.op.operands.toList.filterMap λ| .tmp t=>Zz t | _=>none
def looks(ops:List Oper)(o:Oper):List Nat :=
 slotsOf o++(match o.guard with | some (g,_)=>(nZ ops g).toList | none=>[])
def z_(ops:List Oper)(x y:Oper):Bool :=
 (match x.dst with | some d => !(looks ops y).contains d&&y.dst != Zz d | none=>Zn) &&
 (match y.dst with | some d => !(looks ops x).contains d | none=>Zn)
def Fc(ops:List Oper)(bs:List (List Nat))(c:List FP)(j:Nat)(a:Oper)(d:FP):Bool :=
 (List.range j).all λi=>((bs[j]?).getD []).contains i||(match ops[i]?,c[i]? with
  | some b,Zz e=>z_ ops b a&&e.apart d
  | _,_=>Zv)
def adP(ops:List Oper):Bool:=(List.range ops.length).all λj=>match ops[j]? with
 | some o=>o.after.toList.all λe => !Region.binds .any e||Zq e.on j
 | none=>Zv
def indep(ops:List Oper)(a:List FP):Bool :=
 let bs:=BL ops
 adP ops&&(List.range ops.length).all λj=>match ops[j]?,a[j]? with
  | some b,Zz c=>Fc ops bs a j b c
  | _,_=>Zv
inductive Ex where
 | normal | ret | exit (id:Nat)
def Ex.EP(e:Ex)(a:ρ)(k:Ex->ρ):ρ:=match e with | .normal=>a | .ret=>k .ret | .exit j=>k (.exit j)
def Ex.tf(id:Nat)(e:Ex)(k:Ex->ρ):ρ:=match e with | .normal=>k .normal | .ret=>k .ret | .exit j=>bif Zy j id then k .normal else k (.exit j)
def Ex.YA(e:Ex)(a:Option ρ):Option ρ:=match e with | .normal=>a | .ret=>none | .exit _=>none
def Ex.Ph(e:Ex)(a b:ρ):ρ:=match e with | .normal=>a | .ret=>a | .exit _=>b
def Ex.ni{σ:Type}(e:Ex)(s:σ):σ ⊕ (Ex×σ):=match e with | .normal => .inl s | .ret => .inr (.ret,s) | .exit j => .inr (.exit j,s)
def E0:List Nat->List Nat
 | []=>[]
 | x::r=>bif (E0 r).contains x then E0 r else x::E0 r
def outs:Code->List Nat
 | .seq a b=>outs a++outs b
 | .cond _ a b=>outs a++outs b
 | .block id a=>(outs a).filter λj => !Zy j id
 | .loop a=>outs a
 | .exit id=>[id]
 | _=>[]
def kJ(e:Ex)(a:Option ρ)(f:Nat->Option ρ):Option ρ:=match e with | .normal=>none | .ret=>a | .exit j=>f j
def wo{ρ:Type}:List Nat->Nat->(Ex->Option ρ)->Option ρ
 | [],_,_=>none
 | i::is,j,k=>aK (Zy j i) (k (.exit i)) (wo is j k)
def Ex.out(ids:List Nat)(e:Ex)(k:Ex->Option ρ):Option ρ:=kJ e (k .ret) λj=>wo ids j k
theorem Ex.BX{ids:List Nat}{e:Ex}{k:Ex->Option ρ}{r:ρ}(h:Ex.out ids e k=Zz r):k e=Zz r:=by
 unfold Ex.out kJ at h;cases e with
 | normal=>cases h
 | ret=>exact h
 | exit j =>
  simp only at h;induction ids with
  | nil=>cases h
  | cons i is ih =>
   simp only[wo,aK] at h;cases a:Zy j i with
   | false=>rw[a] at h;exact ih h
   | true=>rw[a] at h;rw[Zw a];exact h
def ca:Code->Nat
 | .region id _ _=>id
 | .seq a _=>ca a
 | .block _ a=>ca a
 | .loop a=>ca a
 | .scope a=>ca a
 | _=>0
def pO(st:Nat->bI)(L:List Nat)(e z:Nat)(byte:Bool)(v:AV)(k:AV->List Nat->Option α):Option α :=
 match byte with
 | true=>match v with
  | .bJ=>k (.eG []) L
  | .row r=>match st r with
   | .fm e' l Zv=>ax (Zy e e' && !L.contains r) (k (.eG l) (r::L))
   | _=>none
  | _=>none
 | false=>match v with
  | .bJ=>ax (Zq 0 z) (k (.ay []) L)
  | .row r=>match st r with
   | .cF e' a l Zv=>ax (Zy e e'&&Zy z a && !L.contains r) (k (.ay l) (r::L))
   | _=>none
  | _=>none
def BU(st:Nat->bI)(L:List Nat)(s:Bool)(kd:IntKind)(v:AV)(k:AV->List Nat->Option α):Option α :=
 match v with
 | .mp r=>match st r with
  | .oV a b els=>ax ((s==a)&&(kd==b) && !L.contains r) (k (.ay els) (r::L))
  | _=>none
 | _=>none
def dr:List KC->List AV->(Nat->bI)->List Nat->(List AV->(Nat->bI)->List Nat->FP->Option α)->Option α
 | [],[],st,L,k=>k [] st L .none
 | .js c::cs,v::vs,st,L,k=>Dm c v st λa i h=>ax (h.wr.all λx => !L.contains x) (dr cs vs i L λl d f f2=>k (a::l) d f (h.add f2))
 | .own _ e z b::cs,v::vs,st,L,k=>pO st L e z b v λa g=>dr cs vs st g λl d f f2=>k (a::l) d f f2
 | .tS _ s kd::cs,v::vs,st,L,k=>BU st L s kd v λa g=>dr cs vs st g λl d f f2=>k (a::l) d f f2
 | _,_,_,_,_=>none
def cL(sl:Nat->AV)(st:Nat->bI)(L:List Nat)(h:i_)(k:List AV->(Nat->bI)->List Nat->FP->Option α):Option α :=
 match h with
 | .val s ty=>(E.ty ty).bind λi=>out i (sl s) st λv d c=>ax (c.wr.all λx => !L.contains x) (match dv i.kind with
  | true=>k v.cells d L c
  | false=>k [v] d L c)
 | .fm s e p=>match sl s with
  | .bJ=>k [.eG []] st L .none
  | .row r=>match st r with
   | .fm e' l q=>ax (Zy e e'&&(p || !q) && !L.contains r) (k [.eG l] st (r::L) .none)
   | _=>none
  | _=>none
 | .cF s e z p=>match sl s with
  | .bJ=>ax (Zq 0 z) (k [.ay []] st L .none)
  | .row r=>match st r with
   | .cF e' a l q=>ax (Zy e e'&&Zy z a&&(p || !q) && !L.contains r) (k [.ay l] st (r::L) .none)
   | _=>none
  | _=>none
 | .ptr s b off=>match sl s with
  | .ptr f o=>ax (Zy b f&&Zy off o) (k [] st L .none)
  | _=>none
 | .bY s b m=>match sl s with
  | .bY f t=>ax (Zy b f&&m==t) (k [] st L .none)
  | _=>none
 | .cells b n=>match st b with
  | .cells cs=>nQ n cs st λl d c=>ax ((c.wr.all λx => !L.contains x) && !L.contains b) (k l d (b::L) c)
  | _=>none
 | .jG b p=>match st b with
  | .jG l q=>ax ((p || !q) && !L.contains b) (k [.bs l] st (b::L) .none)
  | _=>none
 | .gw b j=>match st b with
  | .cells cs=>dr j cs st L λl d g f1=>ax (!g.contains b) (k l d (b::g) f1)
  | _=>none
 | .rowAt b h e z=>match h with
  | true=>match st b with
   | .jp e' a l=>ax (Zy e e'&&Zy z a && !L.contains b) (k [.ay l] st (b::L) .none)
   | _=>none
  | false=>match st b with
   | .cF e' a l q=>ax (Zy e e'&&Zy z a && !q && !L.contains b) (k [.ay l] st (b::L) .none)
   | _=>none
 | .ij s b e z=>match sl s with
  | .bL f e' a=>ax (Zy b f&&Zy e e'&&Zy z a) (k [] st L .none)
  | _=>none
def dH(sl:Nat->AV):List i_->(Nat->bI)->List Nat->(List AV->(Nat->bI)->List Nat->FP->Option α)->Option α
 | [],st,L,k=>k [] st L .none
 | h::hs,st,L,k=>cL E sl st L h λl a d f1=>dH sl hs a d λr b c f2=>k (l++r) b c (f1.add f2)
def collect(fr:Fr)(hs:List i_)(k:List AV->Option α):Option α:=dH E fr.aL hs fr.st [] λl _ _ _=>k l
def ot:List CT->List AV->(List AV->List AV->Option α)->Option α
 | [],l,k=>k [] l
 | c::cs,l,k=>ar l λx r=>gq c x λd=>ot cs r λa b=>k (d::a) b
def fresh(st:Nat->bI)(b:Nat)(k:Option α):Option α:=match st b with
 | .free=>k
 | _=>none
def nY(st:Nat->bI)(b:Nat)(k:Option α):Option α:=match st b with
 | .free=>k
 | .dead=>k
 | _=>none
def dl:List KC->List AV->Fr->(List AV->List AV->Fr->Option α)->Option α
 | [],l,fr,k=>k [] l fr
 | .js c::cs,l,fr,k=>ar l λx r=>gq c x λf=>dl cs r fr λa b d=>k (f::a) b d
 | .own t e z b::cs,l,fr,k=>ar l λx r=>match b with
  | true=>x.fS λy=>fresh fr.st t (dl cs r ⟨fr.aL,cQ fr.st t (.fm e y Zv)⟩ λa b d=>k (.row t::a) b d)
  | false=>x.aS λy=>fresh fr.st t (dl cs r ⟨fr.aL,cQ fr.st t (.cF e z y Zv)⟩ λa b d=>k (.row t::a) b d)
 | .tS t s kd::cs,l,fr,k=>ar l λx r=>x.aS λy=>fresh fr.st t (dl cs r ⟨fr.aL,cQ fr.st t (.oV s kd y)⟩ λa b d=>k (.mp t::a) b d)
def restore:List i_->List AV->Fr->(Fr->Option α)->Option α
 | [],l,fr,k=>ak l (k fr)
 | h::hs,l,fr,k =>
  match h with
  | .val s ty=>(E.ty ty).bind λi=>match dv i.kind with
   | true=>ot i.iN l λcs r=>restore hs r ⟨cQ fr.aL s (.agg cs),fr.st⟩ k
   | false=>match i.iN with
    | [c]=>ar l λx r=>gq c x λd=>restore hs r ⟨cQ fr.aL s d,fr.st⟩ k
    | _=>none
  | .fm s e p=>ar l λx r=>x.fS λb=>fresh fr.st (8192+s) (restore hs r ⟨cQ fr.aL s (.row (8192+s)),cQ fr.st (8192+s) (.fm e b p)⟩ k)
  | .cF s e z p=>ar l λx r=>x.aS λb=>fresh fr.st (8192+s) (restore hs r ⟨cQ fr.aL s (.row (8192+s)),cQ fr.st (8192+s) (.cF e z b p)⟩ k)
  | .ptr s b off=>match fr.st b with
   | .cells _=>restore hs l ⟨cQ fr.aL s (.ptr b off),fr.st⟩ k
   | .jG _ _=>restore hs l ⟨cQ fr.aL s (.ptr b off),fr.st⟩ k
   | _=>none
  | .bY s b g=>match fr.st b with
   | .cells _=>restore hs l ⟨cQ fr.aL s (.bY b g),fr.st⟩ k
   | _=>none
  | .cells b j=>ot j l λcs r=>nY fr.st b (restore hs r ⟨fr.aL,cQ fr.st b (.cells cs)⟩ k)
  | .jG b p=>ar l λx r=>x.dC λc=>nY fr.st b (restore hs r ⟨fr.aL,cQ fr.st b (.jG c p)⟩ k)
  | .gw b f=>dl f l fr λcs r a=>nY a.st b (restore hs r ⟨a.aL,cQ a.st b (.cells cs)⟩ k)
  | .rowAt b h e z=>ar l λx r=>x.aS λy=>nY fr.st b (match h with
   | true=>restore hs r ⟨fr.aL,cQ fr.st b (.jp e z y)⟩ k
   | false=>restore hs r ⟨fr.aL,cQ fr.st b (.cF e z y Zv)⟩ k)
  | .ij s b e z=>match fr.st b with
   | .jp .. => restore hs l ⟨cQ fr.aL s (.bL b e z),fr.st⟩ k
   | _=>none
def nU:Fr:=⟨λ_ => .undef,λk=>bif E.hand.contains k then .dead else .free⟩
end
noncomputable def exec(E:Env)(rts:Nat->Option (List Nat))(n:Nat):Code->(α:Type)->Fr->(Ex->Fr->Option α)->Option α
 | .skip,_,fr,k=>k .normal fr
 | .label _,_,fr,k=>k .normal fr
 | .region id ops draw,_,fr,k=>match E.keep (2000000+id) with
  | []=>fF E rts n ops.toList ops.toList fr λd f=>ax (!draw||indep ops.toList f) (k .normal d)
  | h::hs=>(fF E rts n ops.toList ops.toList fr λd f=>ax (!draw||indep ops.toList f) (collect E d (h::hs) Zz)).bind λl=>restore E (h::hs) l (nU E) λd=>k .normal d
 | .seq a b,α,fr,k=>exec E rts n a α fr λe d=>e.EP (exec E rts n b α d k) λe=>k e d
 | .cond c a b,α,fr,k=>match E.keep (3000000+ca a) with
  | []=>(cU E fr c).bind λv=>v.dw λt=>aK t (exec E rts n a α fr k) (exec E rts n b α fr k)
  | h::hs=>((cU E fr c).bind λv=>v.dw λt=>aK t (exec E rts n a (List AV) fr λe d=>e.YA (collect E d (h::hs) Zz)) (exec E rts n b (List AV) fr λe d=>e.YA (collect E d (h::hs) Zz))).bind λl=>restore E (h::hs) l (nU E) λd=>k .normal d
 | .block id a,α,fr,k=>exec E rts n a α fr λe d=>e.tf id λe=>k e d
 | .loop a,_,fr,k =>
  collect E fr (E.keep (ca a)) λg =>
   (bh (λst=>restore E (E.keep (ca a)) st (nU E) λi=>exec E rts n a (List AV ⊕ (Ex×List AV)) i λe d =>
     collect E d (E.keep (ca a)) λst'=>Zz (e.ni st')) g).bind λr=>restore E (E.keep (ca a)) r.2 (nU E) λd=>Ex.out (E0 (outs a)) r.1 λe=>k e d
 | .exit id,_,fr,k=>k (.exit id) fr
 | .ret,_,fr,k=>k .ret fr
 | _,_,_,_=>none
def g_(args:List AV)(j:Nat):Option (Nat×Nat):=match args[j]? with
 | some (.bL _ e z)=>Zz (e,z)
 | _=>none
def G1(q:Option (Nat×Nat))(cs:List AV):bI:=match q with
 | some q => .jp q.1 q.2 cs
 | none => .cells cs
def U':Nat->List AV->Bool
 | _,[]=>Zn
 | j,a::r=>(match a with | .bL k _ _=>Zy k j | .ptr k _=>Zy k j | _=>Zn)&&U' (j+1) r
def entry:Nat->List AV->List (Nat×List AV)->Fr
 | _,args,a=>⟨λi=>(args[i]?).getD .undef,λb=>match a.find? (λx=>Zy x.1 b) with | some x=>G1 (g_ args b) x.2 | none => .free⟩
section
variable {α:Type} (E:Env)
def RX(d:List (Nat×Nat))(i:TI)(st:Nat->bI)(L:List Nat)(v:AV)(k:AV->(Nat->bI)->List Nat->Option α):Option α :=
 match TT E.ty d with
 | some (j,e,f)=>match v with
  | .agg cs=>match cs[j]? with
   | some (.row r)=>match st r with
    | .cF e' z l Zv=>ax (Zy e e'&&Zy z f.size && !L.contains r) (nQ (i.iN.set j .bool) (cs.set j (.bool Zv)) st λa c b=>ax (b.wr.all λx => !(r::L).contains x) (k (.agg (a.set j (.ay l))) c (r::L)))
    | _=>none
   | _=>none
  | _=>none
 | none=>out i v st λa c b=>ax (b.wr.all λx => !L.contains x) (k a c L)
def HJ(i:TI)(st:Nat->bI)(L:List Nat)(own:Bool)(v:AV)(k:AV->(Nat->bI)->List Nat->Option α):Option α :=
 match own with
 | false=>out i v st λa c b=>ax (b.wr.all λx => !L.contains x) (k a c L)
 | true=>match i.kind with
  | .slice e Zn=>match v with
   | .bJ=>k (.eG []) st L
   | .row r=>match st r with
    | .fm e' l Zv=>ax (Zy e e' && !L.contains r) (k (.eG l) st (r::L))
    | _=>none
   | _=>none
  | .slice e Zv=>match E.ty e with
   | none=>none
   | some d=>match v with
    | .bJ=>ax (Zq 0 d.size) (k (.ay []) st L)
    | .row r=>match st r with
     | .cF e' z l Zv=>ax (Zy e e'&&Zy z d.size && !L.contains r) (k (.ay l) st (r::L))
     | _=>none
    | _=>none
  | .struct f=>RX E f i st L v k
  | _=>out i v st λa c b=>ax (b.wr.all λx => !L.contains x) (k a c L)
def ML(sl:Nat->AV)(st:Nat->bI)(L:List Nat)(r:ResultVar)(ty:Nat)(own:Bool)(k:AV->(Nat->bI)->List Nat->Option α):Option α :=
 (E.ty ty).bind λi=>match r with
  | .tmp t=>HJ E i st L own (sl t) k
  | .cell a t=>(E.ty t).bind λb=>ld E ⟨sl,st⟩ b (sl a) λv _ _=>HJ E i st L own v k
def rU(sl:Nat->AV):List ResultVar->List Nat->(Nat->bI)->List Nat->Bool->(List AV->(Nat->bI)->List Nat->Option α)->Option α
 | [],[],st,L,_,k=>k [] st L
 | r::a,ty::b,st,L,own,k=>ML E sl st L r ty own λv c f=>rU sl a b c f Zv λl d e=>k (v::l) d e
 | _,_,_,_,_,_=>none
def oI(as:List AV):List (Nat×List AV)->List Nat->(Nat->bI)->List Nat->(aO->Option α)->Option α
 | [],_,_,_,k=>k []
 | (b,_)::r,a,st,L,k=>match st b,(a[b]?).bind E.ty with
  | .cells cs,Zz { kind := .ptr e,.. }=>(E.ty e).bind λd=>nQ d.iN cs st λl f c=>ax (c.wr.all λx => !L.contains x) (oI as r a f L λbs=>k (l::bs))
  | .jp e z els,_=>match g_ as b with
   | some q=>ax (Zy e q.1&&Zy z q.2) (oI as r a st L λbs=>k (els::bs))
   | none=>none
  | _,_=>none
end
noncomputable def rV(E:Env)(rts:Nat->Option (List Nat))(own:Bool)(fn:Func)(args:List AV)(a:List (Nat×List AV))(hand:List Nat):Option (AV×aO) :=
 match fn.body with
 | none=>none
 | some c=>ax (Zh args.length fn.ntmps&&U' 0 args) (exec { E with hand:=hand } rts fn.ntmps c (AV×aO) (entry 0 args a) λe fr=>e.Ph (rU E fr.aL fn.results.toList fn.resultTypes.toList fr.st [] own λvs st L=>oI E args a fn.params.toList st L λbs =>
   match vs with
   | [v]=>Zz (v,bs)
   | vs=>Zz (.bp vs,bs)) none)
noncomputable def sX(E:Env)(rts:Nat->Option (List Nat))(own:Bool)(fn:Func)(args:List AV)(a:List (Nat×List AV)):Option (AV×aO):=rV E rts own fn args a (a.map (·.1))
end Go.Abs
/- What follows from an eliminator's having a result. -/
namespace Go.Abs
variable {α:Type}{c:CT}{k:AV->Option α}{r:α}{l:List AV}{f:List AV->Option α}{i:TI}{b:Bool}{op:BinOp}
theorem mE{v:AV}(h:gq c v k=Zz r):k v=Zz r:=by
 unfold gq at h;split at h
 .rename_i kd;unfold AV.aw at h
  grind
 .unfold AV.qW at h;split at h<;>first | exact h | cases h
 .unfold AV.dw at h;split at h<;>first | exact h | cases h
 .unfold AV.fT at h;split at h<;>first | exact h | cases h
 .unfold AV.dC at h;split at h<;>first | exact h | cases h
 .rename_i z;unfold AV.fN at h;split at h
  .rename_i _ a l;cases he:Zy a z with
   | false=>rw[he] at h;cases h
   | true =>
    simp_all
  .cases h
 .cases h
theorem gy{f:AV->List AV->Option α}(h:ar l f=Zz r):∃ x t,l=x::t/\f x t=Zz r:=by
 unfold ar at h
 grind
theorem ob{f:Option α}(h:ak l f=Zz r):l=[]/\f=Zz r:=by
 unfold ak at h
 grind
theorem xV{α:Type}:∀ {cs:List CT} {l:List AV} {k:List AV->Option α} {r:α},rN cs l k=Zz r->k l=Zz r
 | [],l,k,r,h=>by obtain⟨rfl,h⟩:=ob h;exact h
 | c::cs,l,k,r,h=>by
  simp only[rN] at h;obtain⟨x,t,rfl,b⟩:=gy h;exact xV (k:=λa=>k (x::a)) (mE b)
theorem wh{v:AV}(h:v.dt f=Zz r):∃ l,v = .agg l/\f l=Zz r:=by
 unfold AV.dt at h;split at h;all_goals grind
theorem FB{v:AV}(h:v.gJ f=Zz r):∃ l,v = .bp l/\f l=Zz r:=by
 unfold AV.gJ at h;split at h;all_goals grind
theorem wk{v:AV}{f:List UInt8->Option α}(h:v.fT f=Zz r):∃ l,v = .str l/\f l=Zz r:=by
 unfold AV.fT at h;split at h;all_goals grind
theorem Dk{v:AV}{f:List UInt8->Option α}(h:v.dC f=Zz r):∃ l,v = .bs l/\f l=Zz r:=by
 unfold AV.dC at h;split at h;all_goals grind
theorem vC{v:AV}{f:Bool->Option α}{s:Option α}(h:v.pM f s=Zz r):(∃ l,v = .bool l/\f l=Zz r)\/(v = .bp []/\s=Zz r):=by
 unfold AV.pM at h
 grind
theorem P9{v:AV}{f:Nat->List (Nat×Nat)->List (Nat×Nat)->Option α}(h:v.Oa f=Zz r):(∃ n,v = .fn n/\f n [] []=Zz r)\/∃ n a b,v = .A1 n a b/\f n a b=Zz r:=by
 unfold AV.Oa at h
 grind
theorem tR{v:AV}{f:Bool->Option α}(h:v.dw f=Zz r):∃ l,v = .bool l/\f l=Zz r:=by
 unfold AV.dw at h;split at h;all_goals grind
theorem xX{v:AV}{f:List UInt8->Option α}(h:v.fS f=Zz r):∃ l,v = .eG l/\f l=Zz r:=by
 unfold AV.fS at h;split at h;all_goals grind
theorem qI{v:AV}(h:v.aS f=Zz r):∃ l,v = .ay l/\f l=Zz r:=by
 unfold AV.aS at h;split at h;all_goals grind
theorem J5{v:AV}{z:Nat}(h:v.fN z f=Zz r):∃ l,v = .sl z l/\f l=Zz r:=by
 unfold AV.fN at h;split at h
 .rename_i a l;cases he:Zy a z with
  | false=>rw[he] at h;cases h
  | true =>
   simp_all
 .cases h
theorem kf{v:AV}(h:norm i v k=Zz r):k v=Zz r:=by
 unfold norm at h;split at h
 .obtain⟨l,rfl,h⟩:=wh h;exact xV h
 .split at h
  .exact mE h
  .cases h
theorem aC{f:Option α}(h:ax b f=Zz r):b=Zn/\f=Zz r:=by
 cases b
 .cases h
 .exact⟨rfl,h⟩
theorem cW{f:Option α}(h:(bif b then f else none)=Zz r):b=Zn/\f=Zz r:=by
 grind
theorem Dl{l:aO}{f:Option α}(h:aE l f=Zz r):l=[]/\f=Zz r:=by
 unfold aE at h
 grind
theorem Bd{l:aO}{f:List AV->aO->Option α}(h:aJ l f=Zz r):∃ x t,l=x::t/\f x t=Zz r:=by
 unfold aJ at h
 grind
theorem Hv{o v:AV}(h:zA o v k=Zz r):k v=Zz r/\∀ (Z:Type) (a:AV->Option Z),zA o v a=a v:=by
 cases o<;>simp only[zA] at h ⊢;case int kd n =>
  cases v<;>simp only[AV.aw] at h ⊢ <;> try (cases h;done)
  rename_i k' m;cases he:(k'==kd) with
  | false=>rw[he] at h;cases h
  | true =>
   have:k'=kd:=by simpa using he
   subst this;rw[he] at h;exact⟨h,λ_ _=>rfl⟩
 case u8 b=>cases v<;>simp only[AV.qW] at h ⊢ <;> first | (cases h;done) | exact⟨h,λ_ _=>trivial⟩
 case bool b=>cases v<;>simp only[AV.dw] at h ⊢ <;> first | (cases h;done) | exact⟨h,λ_ _=>trivial⟩
 case str b=>cases v<;>simp only[AV.fT] at h ⊢ <;> first | (cases h;done) | exact⟨h,λ_ _=>trivial⟩
 case bs b=>cases v<;>simp only[AV.dC] at h ⊢ <;> first | (cases h;done) | exact⟨h,λ_ _=>trivial⟩
 case sl z b =>
  cases v<;>simp only[AV.fN] at h ⊢ <;> try (cases h;done)
  rename_i c l;cases he:Zy c z with
  | false=>rw[he] at h;cases h
  | true =>
   have:=Zw he;subst this;rw[he] at h;exact⟨h,λ_ _=>rfl⟩
 all_goals exact⟨h,λ_ _=>trivial⟩
theorem rO{α:Type}:∀ {os l:List AV} {k:List AV->Option α} {r:α},qa os l k=Zz r->k l=Zz r/\os.length=l.length/\∀ (Z:Type) (a:List AV->Option Z),qa os l a=a l
 | [],l,k,r,h=>by obtain⟨rfl,h⟩:=ob h;exact⟨h,rfl,λ_ _=>rfl⟩
 | o::os,l,k,r,h=>by
  simp only[qa] at h;obtain⟨x,t,rfl,e⟩:=gy h;obtain⟨d,d2⟩:=Hv e;obtain⟨c,f,d3⟩:=rO (k:=λb=>k (x::b)) d;exact⟨c,by simp[f],λZ a=>by simp only[qa,ar];rw[d2,d3]⟩
theorem FH{α:Type}:∀ {l:List Nat} {n:Nat} {f:Nat->Option α} {r:α},Du l n f=Zz r->∃ o,l[n]? = Zz o/\f o=Zz r
 | [],n,f,r,h=>by cases h
 | o::l,n,f,r,h=>by
  simp only[Du,aK] at h;cases n with
  | zero=>exact⟨o,rfl,h⟩
  | succ n =>
   have a:Zy (n+1) 0=Zv:=rfl;rw[a] at h;obtain⟨b,d,c⟩:=FH h
   grind
theorem xF{x y v:AV}(h:Ct op x y=Zz (Zn,v)):nL op x y=Zz v:=by
 have a:∀ {o:Option AV},(o.map λv=>(Zn,v))=Zz (Zn,v)->o=Zz v:=λ{o} h=>by
  simp_all
 have c:∀ {f:IntKind->Int->Int->Bool} {b:IntKind->Int->Int->AV},iU x y (λk n m=>Zz (f k n m,b k n m))=Zz (Zn,v)->iU x y (λk n m=>ax (f k n m) (Zz (b k n m)))=Zz v:=by
  intro f b h;unfold iU at h ⊢;split at h
  .obtain⟨d,h⟩:=cW h;rw[d];simp only[Option.some.injEq,Prod.mk.injEq] at h;simp only[h.1,h.2,ax,Qa6]
  .simp only[Option.some.injEq,Prod.mk.injEq] at h;simp only[h.1,h.2,ax,Qa6]
  .cases h
 cases op<;>simp only[Ct] at h<;>first | exact a h | exact c h | skip
 .split at h
  .simp only[Option.some.injEq,Prod.mk.injEq] at h;simp only[nL,h.1,h.2,ax,Qa6]
  .exact a h
 all_goals
  split at h
  .rename_i hm;simp only[Option.some.injEq,Prod.mk.injEq] at h;simp only[nL,hm,h.1,h.2,ax,Qa6]
  .rename_i hm;simp only[Option.some.injEq,Prod.mk.injEq] at h;simp only[nL,hm,h.1,h.2,ax,Qa6]
  .cases h
theorem I3{x y v:AV}(h:GP i op x y=Zz (Zn,v)):GN i op x y=Zz v:=by
 cases x<;>simp only[GP,GN] at h ⊢ <;> try (first | exact xF h | (cases h;done))
 .cases a:i.kind<;>rw[a] at h<;>simp only at h ⊢ <;> first | exact xF h | (cases h;done)
 .cases he:i.F6 with
  | nil=>rw[he] at h;cases h
  | cons c r =>
   rw[he] at h;simp only at h ⊢;obtain⟨b,h⟩:=cW h;rw[b];exact xF h
theorem wq:∀ (cs:List AV) (off:Nat) (n:List AV),off+n.length<=cs.length->tV cs off n=place cs off n
 | [],off,n,h=>by
  have a:n.length=0:=by simp only[List.length_nil] at h;omega
  have:n=[]:=Yz a;subst this;simp[tV,place]
 | c::cs,0,n,h=>by
  cases n with
  | nil=>simp[tV,place]
  | cons x r =>
   have:=wq cs 0 r (by simp at h;omega);simp only[tV,this,place,List.take_zero,List.nil_append,Nat.zero_add,List.length_cons,List.drop_succ_cons,List.cons_append]
 | c::cs,k+1,n,h=>by
  have:=wq cs k n (by simp at h;omega);simp only[tV,this,place,List.take_succ_cons,List.cons_append]
  grind
theorem vp{sz:Nat}:∀ {els:List AV},(∀ x∈els,x.cells.length=sz)->∀ {n:Nat} {x:AV},els[n]? = Zz x->∀ {j:Nat} {c:AV},x.cells[j]? = Zz c->(els.flatMap AV.cells)[n*sz+j]? = Zz c
 | [],_,n,x,h,_,_,_=>by simp at h
 | y::r,hs,n,x,h,j,c,b=>by
  have hy:=hs y (by simp);rw[Zg];cases n with
  | zero =>
   grind
  | succ n =>
   simp at h;have ih:=vp (λz a=>hs z (by simp[a])) h b
   grind
theorem jL{sz:Nat}:∀ {els:List AV},(∀ x∈els,x.cells.length=sz)->(els.flatMap AV.cells).length=els.length*sz
 | [],_=>by simp
 | x::r,h=>by
  rw[Zg,List.length_append,jL λy hy=>h y (by simp[hy]),h x (by simp),List.length_cons,Nat.add_mul];omega
theorem Mq{v:AV}(h:gq c v k=Zz r):v.cells=[v]:=by
 cases v<;>first | rfl | (cases c<;>simp[gq,AV.aw,AV.qW,AV.dw,AV.fT,AV.dC,AV.fN] at h)
theorem FA{v:AV}(h:norm i v k=Zz r)(a:dv i.kind=Zv):v.cells=[v]:=by
 unfold norm at h;rw[a] at h;simp only at h;split at h
 .exact Mq h
 .cases h
theorem zB{v:AV}(h:norm i v k=Zz r):match v with | .eG _=>False | .ay _=>False | _=>True:=by
 cases v<;>try trivial
 all_goals
  unfold norm at h;split at h
  .simp[AV.dt] at h
  .split at h
   .rename_i c _;cases c<;>simp[gq,AV.aw,AV.qW,AV.dw,AV.fT,AV.dC,AV.fN] at h
   .cases h
theorem zy{α:Type}:∀ {b:List CT} {cs:List AV} {k:List AV->Option α} {r:α},rN b cs k=Zz r->∀ (j:Nat) (l:List AV),cs[j]? = Zz (.ay l)->False
 | [],cs,k,r,h,j,l,a=>by
  obtain⟨rfl,_⟩:=ob h;simp at a
 | c::b,cs,k,r,h,j,l,a=>by
  obtain⟨x,q,rfl,d⟩:=gy h;cases j with
  | zero =>
   simp only[List.getElem?_cons_zero,Option.some.injEq] at a;subst a;cases c<;>simp[gq,AV.aw,AV.qW,AV.dw,AV.fT,AV.dC,AV.fN] at d
  | succ j =>
   have e:=mE d;exact zy e j l (by simpa using a)
theorem Di{cs:List AV}(h:norm i (.agg cs) k=Zz r)(j:Nat)(l:List AV)(a:cs[j]? = Zz (.ay l)):False:=by
 unfold norm at h;split at h
 .exact zy h j l a
 .split at h
  .rename_i c _;cases c<;>simp[gq,AV.aw,AV.qW,AV.dw,AV.fT,AV.dC,AV.fN] at h
  .cases h
theorem Fz{α:Type}{t:Nat}:∀ {j:Nat} {a:List CT} {cs:List AV} {k:List AV->List AV->Option α} {r:α},sN t j a cs k=Zz r->∃ l,cs[j]? = Zz (.ay l)/\k (cs.set j (.row t)) l=Zz r
 | 0,[],cs,k,r,h=>by simp only[sN] at h;cases h
 | j+1,[],cs,k,r,h=>by simp only[sN] at h;cases h
 | 0,c::a,cs,k,r,h=>by
  simp only[sN] at h;obtain⟨x,q,rfl,b⟩:=gy h;obtain⟨l,rfl,d⟩:=qI b;exact⟨l,by simp,by simpa using xV d⟩
 | j+1,c::a,cs,k,r,h=>by
  simp only[sN] at h;obtain⟨x,q,rfl,b⟩:=gy h;obtain⟨l,f,e⟩:=Fz (mE b)
  grind
theorem PF{E:Env}{b:List (Nat×Nat)}{t:Nat}{v:AV}{st:Nat->bI}{k:AV->(Nat->bI)->FP->Option α}(h:JC E b t i v st k=Zz r):
  (∃ cs j l e a,v = .agg cs/\cs[j]? = Zz (.ay l)/\st t = .free/\TT E.ty b=Zz (j,e,a)/\k (.agg (cs.set j (.row t))) (cQ st t (.cF e a.size l Zv)) ⟨[t],[t]⟩=Zz r)\/norm i v (λv'=>k v' st .none)=Zz r:=by
 unfold JC at h;split at h
 .rename_i j e a f;split at h
  .rename_i d;obtain⟨cs,rfl,c⟩:=wh h;obtain⟨l,m,g⟩:=Fz c
   grind
  .cases h
 .exact .inr h
end Go.Abs
/- The types of a program, as the abstract interpreter sees them. -/
namespace Go.Abs
def Ey(P:Program)(t:Nat):Bool :=
 match P.underlying t,P.info? t with
 | some (.int .u8),Zz i=>i.size==1&&i.bytes==1&&(match i.zero with | some (.int .u8 0)=>Zn | _=>Zv)
 | _,_=>Zv
def sized(P:Program)(t:Nat):Bool:=match P.info? t with | some i=>Zq 0 i.size | none=>Zv
def NE(P:Program):Nat->Nat->Option (List CT)
 | 0,_=>none
 | n+1,t=>match P.underlying t with
  | some (.int .u8)=>Zz [.u8]
  | some (.int k)=>Zz [.int k]
  | some .bool=>Zz [.bool]
  | some .string=>Zz [.str]
  | some (.slice e)=>Zz [if Ey P e then .c4 else .sl (match P.info? e with | some i=>i.size | none=>0)]
  | some (.pointer _)=>Zz [.ptr]
  | some (.map _ _)=>Zz [.other]
  | some (.func _ _ _)=>Zz [.other]
  | some (.struct c)=>c.toList.foldr (λf acc=>match NE P n f.type,acc with | some a,Zz b=>Zz (a++b) | _,_=>none) (Zz [])
  | some (.array k e)=>match NE P n e with
   | some l=>Zz ((List.replicate k l).flatten)
   | none=>none
  | _=>none
def gX(P:Program)(t:Nat):Option TK :=
 match P.underlying t with
 | some (.int .u8)=>Zz .u8
 | some (.int k)=>Zz (.int k)
 | some .bool=>Zz .bool
 | some .string=>Zz .str
 | some (.slice e)=>Zz (.slice e (Ey P e))
 | some (.pointer e)=>Zz (.ptr e)
 | some (.array n e)=>Zz (.c8 n e (Ey P e))
 | some (.map k e)=>Zz (.map k e)
 | some (.struct a) => if a.toList.all (λf => sized P f.type && f.name != "_") then Zz (.struct (a.toList.map λf => (f.offset, f.type))) else none
 | some (.func _ _ _)=>Zz .other
 | _=>none
def zp(P:Program):List Field->Nat->Bool
 | [],_=>Zn
 | f :: r, o => f.offset == o && f.name != "_" && (match P.info? f.type with | some i => Zq 0 i.size && zp P r (o + i.size) | none => Zv)
def ND(k:IntKind):CT:=match k with | .u8 => .u8 | k => .int k
def N0(a:Option (List CT))(i:Option TypeInfo)(b:Option (List CT)):Option (List CT) :=
 match a with
 | some a=>match i with
  | some i=>match b with
   | some b=>if a.length=i.size then Zz (a++b) else none
   | none=>none
  | none=>none
 | none=>none
def wV(P:Program):Nat->Nat->Option (List CT)
 | 0,_=>none
 | n+1,t=>match P.underlying t,P.info? t with
  | some (.int k),Zz i=>if i.size=1 then Zz [ND k] else none
  | some .bool,Zz i=>if i.size=1 then Zz [.bool] else none
  | some .string,Zz i=>if i.size=1 then Zz [.str] else none
  | some (.struct a),Zz i=>if P.stoodInHeld t=Zv/\zp P a.toList 0=Zn then a.toList.foldr (λf acc=>N0 (wV P n f.type) (P.info? f.type) acc) (Zz []) else none
  | _,_=>none
def Ih(z:Option Value)(k:TK):Bool:=match z with
 | some (.agg _)=>dv k
 | some _ => !dv k
 | none=>Zv
def fq(P:Program)(t:Nat):Option TI :=
 match P.info? t,gX P t,NE P 20 t with
 | some i,Zz k,Zz a=>match i.zero.bind λv=>ry v.cells.toList with
  | some z=>if z.length=i.size&&a.length=i.size&&Ih i.zero k then Zz ⟨i.size,i.bytes,k,z,a,if P.eqGuardType P.depth t=Zv then(wV P 20 t).getD [] else[]⟩ else none
  | none=>none
 | _,_,_=>none
end Go.Abs
/- What it means that a value of the model's, in a world, is one of the abstract interpreter's; and that this stays so. -/
namespace Go.Abs
variable {R:Value->AV->Prop}{vs:List Value}{c:AV}
abbrev bF:=Nat->Nat
def kU(b:UInt8):Value := .int .u8 b.toNat
inductive bZ (w:World) (p:bF):Value->AV->Prop
 | int {k:IntKind} {n:Int} (hk:k ≠ .u8):bZ w p (.int k n) (.int k n)
 | u8 {b:UInt8}:bZ w p (kU b) (.u8 b)
 | bool {b:Bool}:bZ w p (.bool b) (.bool b)
 | str {s:ByteArray} {l:List UInt8} (h:s.data.toList=l):bZ w p (.string s) (.str l)
 | bs {a:Option Addr} {len cap:Nat} {l:List UInt8} (Z off:Nat) (hl:l.length=len) (hc:len<=cap) (ha:len=0\/a=Zz ⟨Z,off,none⟩)
   (h:∀ i b,l[i]? = Zz b->off+i<p Z/\w.cell? ⟨Z,off+i,none⟩=Zz (kU b)):bZ w p (.slice a len cap) (.bs l)
 | sl {a:Option Addr} {len cap sz:Nat} {els:List AV} (Z off:Nat) (vs:Nat->Value) (hl:els.length=len) (hc:len<=cap) (fK:∀ e∈els,e.cells.length=sz) (ha:len=0\/a=Zz ⟨Z,off,none⟩)
   (h:∀ j c,(els.flatMap AV.cells)[j]? = Zz c->off+j<p Z/\w.cell? ⟨Z,off+j,none⟩=Zz (vs j))
   (hr:∀ j c,(els.flatMap AV.cells)[j]? = Zz c->bZ w p (vs j) c):bZ w p (.slice a len cap) (.sl sz els)
 | bJ {a:Option Addr}:bZ w p (.slice a 0 0) .bJ
 | mr:bZ w p (.pointer none) .mr
 | Az:bZ w p (.map none) .Az
 | sJ:bZ w p .nilFunc .sJ
 | fn {f:Nat}:bZ w p (.func (.func f) #[] #[]) (.fn f)
 | jX {Z off:Nat} {cs:List AV} (vs:Nat->Value) (h:∀ j c,cs[j]? = Zz c->off+j<p Z/\w.cell? ⟨Z,off+j,none⟩=Zz (vs j))
   (hr:∀ j c,cs[j]? = Zz c->bZ w p (vs j) c):bZ w p (.pointer (Zz ⟨Z,off,none⟩)) (.jX cs)
structure aT (R:Value->AV->Prop) (vs:List Value) (cs:List AV):Prop where
 len:vs.length=cs.length
 each:∀ (i:Nat) (v:Value) (c:AV),vs[i]? = Zz v->cs[i]? = Zz c->R v c
theorem aT.imp{a:Value->AV->Prop}{cs:List AV}(h:aT R vs cs)(d:∀ v c,R v c->a v c):aT a vs cs :=
 ⟨h.len,λi v c b hc=>d v c (h.each i v c b hc)⟩
theorem aT.nil:aT R [] []:=⟨rfl,λi v c a=>by simp at a⟩
theorem aT.cons{R:Value->AV->Prop}{v:Value}{c:AV}{vs:List Value}{cs:List AV}(h:R v c)(t:aT R vs cs):aT R (v::vs) (c::cs) :=
 ⟨by simp[t.len],λi x y a hy=>by
  cases i with
  | zero=>simp at a hy;subst a;subst hy;exact h
  | succ i=>simp at a hy;exact t.each i x y a hy⟩
theorem aT.ii{cs:List AV}(h:aT R vs (c::cs)):∃ v a,vs=v::a/\R v c/\aT R a cs:=by
 cases vs with
 | nil=>have:=h.len;simp at this
 | cons v a=>exact⟨v,a,rfl,h.each 0 v c rfl rfl,by have:=h.len;simpa using this,λi x y b hy=>h.each (i+1) x y (by simpa using b) (by simpa using hy)⟩
theorem aT.jw(h:aT R vs []):vs=[]:=Yz (by simpa using h.len)
theorem aT.get{cs:List AV}(h:aT R vs cs){i:Nat}(hc:cs[i]? = Zz c):∃ v,vs[i]? = Zz v/\R v c:=by
 have b:i<cs.length:=(Zp.1 hc).1;have a:i<vs.length:=by rw[h.len];exact b
 exact⟨vs[i],Zb a,h.each i _ c (Zb a) hc⟩
theorem aT.drop{R:Value->AV->Prop}{vs:List Value}{cs:List AV}(h:aT R vs cs)(n:Nat):aT R (vs.drop n) (cs.drop n) :=
 ⟨by simp[h.len],λi v c a hc=>h.each (n+i) v c (by simpa using a) (by simpa using hc)⟩
theorem aT.take{R:Value->AV->Prop}{vs:List Value}{cs:List AV}(h:aT R vs cs)(n:Nat):aT R (vs.take n) (cs.take n) :=
 ⟨by simp[h.len],λi v c a hc=>by
  rw[Zd] at a hc;split at a
  .rw[Qa1 ‹_›] at hc;exact h.each i v c a hc
  .cases a⟩
theorem aT.append{us:List Value}{cs ds:List AV}(h:aT R vs cs)(k:aT R us ds):aT R (vs++us) (cs++ds) :=
 ⟨by simp[h.len,k.len],λi v c a hc=>by
  rw[List.getElem?_append] at a hc;rw[h.len] at a;split at a
  .rw[Qa1 ‹_›] at hc;exact h.each i v c a hc
  .rw[Qa0 ‹_›] at hc;exact k.each _ v c a hc⟩
def bR:Value->Option Nat
 | .pointer (Zz a)=>Zz a.block
 | .slice (Zz a) _ cap=>if cap=0 then none else Zz a.block
 | .map (Zz r)=>Zz r
 | _=>none
section
variable (w:World) (p:bF) (g:Nat->Value) (u:Nat->Prop)
inductive cR:Value->AV->Prop
 | js {v:Value} {a:AV} (h:bZ w p v a):cR v a
 | ptr {k off Z:Nat} (hu:u k) (hg:g k = .pointer (Zz ⟨Z,0,none⟩)):cR (.pointer (Zz ⟨Z,off,none⟩)) (.ptr k off)
 | jQ {k i sz off Z:Nat} (hu:u k) (hg:bR (g k)=Zz Z):cR (.pointer (Zz ⟨Z,i*sz+off,none⟩)) (.jQ k i sz off)
 | row {k:Nat} (hu:u k) (hs:∃ a l c,g k = .slice a l c):cR (g k) (.row k)
 | mp {k Z:Nat} (hu:u k) (hg:g k = .map (Zz Z)):cR (.map (Zz Z)) (.mp k)
 | bL {k e sz:Nat} (hu:u k) (hs:∃ a l c,g k = .slice a l c):cR (g k) (.bL k e sz)
 | bY {k Z b cap:Nat} {iQ:List Nat} (hu:u k) (hg:g k = .pointer (Zz ⟨b,0,none⟩)) (h:∀ (j off:Nat),iQ[j]? = Zz off->j<p Z/\w.cell? ⟨Z,j,none⟩=Zz (.pointer (Zz ⟨b,off,none⟩))):cR (.slice (Zz ⟨Z,0,none⟩) iQ.length cap) (.bY k iQ)
 | pQ {k Z j off b:Nat} (hu:u k) (hg:g k = .pointer (Zz ⟨b,0,none⟩)) (hp:j<p Z) (hc:w.cell? ⟨Z,j,none⟩=Zz (.pointer (Zz ⟨b,off,none⟩))):cR (.pointer (Zz ⟨Z,j,none⟩)) (.pQ k off)
 | pre {k n Z l cap:Nat} (hu:u k) (hg:g k = .slice (Zz ⟨Z,0,none⟩) l cap) (hn:n<=l):cR (.slice (Zz ⟨Z,0,none⟩) n cap) (.pre k n)
 | Ei {k m z Z l cap:Nat} {a:Option Addr} (hu:u k) (hg:g k = .slice (Zz ⟨Z,0,none⟩) l cap) (hm:m<=l) (ha:m=l\/a=Zz ⟨Z,m*z,none⟩):cR (.slice a (l-m) (cap-m)) (.Ei k m z)
 | A1 {f:Nat} {vs us:Array Value} {fs cs:List (Nat×Nat)} (h1:vs.size=fs.length) (h2:us.size=cs.length)
   (hf:∀ (j k off:Nat),fs[j]? = Zz (k,off)->u k/\∃ Z,g k = .pointer (Zz ⟨Z,0,none⟩)/\vs[j]? = Zz (.pointer (Zz ⟨Z,off,none⟩)))
   (hc:∀ (j k off:Nat),cs[j]? = Zz (k,off)->u k/\∃ Z,g k = .pointer (Zz ⟨Z,0,none⟩)/\us[j]? = Zz (.pointer (Zz ⟨Z,off,none⟩))):cR (.func (.func f) vs us) (.A1 f fs cs)
def yo(v:Value)(a:AV):Prop :=
 cR w p g u v a\/∃ c8 cs,v = .agg c8/\a = .agg cs/\aT (cR w p g u) c8.toList cs
def bw(v:Value)(a:AV):Prop :=
 a = .undef\/yo w p g u v a\/∃ c8 as,v = .tuple c8/\a = .bp as/\aT (yo w p g u) c8.toList as
end
structure cZ (w:World) (p:bF) (g:Nat->Value) (u:Nat->Prop) (w':World) (p':bF) (g':Nat->Value) (u':Nat->Prop):Prop where
 mN:∀ Z,p Z<=p' Z
 cell:∀ Z i,i<p Z->w'.cell? ⟨Z,i,none⟩=w.cell? ⟨Z,i,none⟩
 gk:∀ k,u k->g' k=g k
 uk:∀ k,u k->u' k
theorem bZ.mono{w w':World}{p p':bF}(f:∀ Z,p Z<=p' Z)(hc:∀ Z i,i<p Z->w'.cell? ⟨Z,i,none⟩=w.cell? ⟨Z,i,none⟩){v:Value}{a:AV}(h:bZ w p v a):bZ w' p' v a:=by
 induction h with
 | int l=>exact .int l
 | u8=>exact .u8
 | bool=>exact .bool
 | str h=>exact .str h
 | bs Z off hl e k h=>exact .bs Z off hl e k λi b g=>⟨Zf (h i b g).1 (f Z),(hc Z _ (h i b g).1).trans (h i b g).2⟩
 | sl Z off vs hl e m k h _ ih=>exact .sl Z off vs hl e m k (λj c d=>⟨Zf (h j c d).1 (f Z),(hc Z _ (h j c d).1).trans (h j c d).2⟩) ih
 | bJ=>exact .bJ
 | mr=>exact .mr
 | Az=>exact .Az
 | sJ=>exact .sJ
 | fn=>exact .fn
 | jX vs h _ ih=>exact .jX vs (λj c d=>⟨Zf (h j c d).1 (f _),(hc _ _ (h j c d).1).trans (h j c d).2⟩) ih
section
variable {w w':World} {p p':bF} {g g':Nat->Value} {u u':Nat->Prop}
theorem cZ.refl:cZ w p g u w p g u:=⟨λ_=>Zk _,λ_ _ _=>rfl,λ_ _=>rfl,λ_ h=>h⟩
theorem cZ.trans{a:World}{c:bF}{d:Nat->Value}{b:Nat->Prop}(h:cZ w p g u w' p' g' u')(k:cZ w' p' g' u' a c d b):cZ w p g u a c d b :=
 ⟨λZ=>Nat.le_trans (h.mN Z) (k.mN Z),λZ i f=>(k.cell Z i (Zf f (h.mN Z))).trans (h.cell Z i f),λx e=>(k.gk x (h.uk x e)).trans (h.gk x e),λx e=>k.uk x (h.uk x e)⟩
theorem cZ.wM(m:cZ w p g u w' p' g' u'){v:Value}{a:AV}(h:bZ w p v a):bZ w' p' v a:=h.mono m.mN m.cell
theorem cZ.EJ(m:cZ w p g u w' p' g' u'){v:Value}{a:AV}(h:cR w p g u v a):cR w' p' g' u' v a:=by
 cases h with
 | js h=>exact .js (m.wM h)
 | ptr hu b=>exact .ptr (m.uk _ hu) ((m.gk _ hu).trans b)
 | jQ hu b=>exact .jQ (m.uk _ hu) (by rw[m.gk _ hu];exact b)
 | row hu e=>rw[<-m.gk _ hu];exact .row (m.uk _ hu) (by rw[m.gk _ hu];exact e)
 | mp hu b=>exact .mp (m.uk _ hu) ((m.gk _ hu).trans b)
 | bL hu e=>rw[<-m.gk _ hu];exact .bL (m.uk _ hu) (by rw[m.gk _ hu];exact e)
 | bY hu b h=>exact .bY (m.uk _ hu) ((m.gk _ hu).trans b) λj off c=>⟨Zf (h j off c).1 (m.mN _),(m.cell _ _ (h j off c).1).trans (h j off c).2⟩
 | pQ hu b f hc=>exact .pQ (m.uk _ hu) ((m.gk _ hu).trans b) (Zf f (m.mN _)) ((m.cell _ _ f).trans hc)
 | pre hu b i=>exact .pre (m.uk _ hu) ((m.gk _ hu).trans b) i
 | Ei hu b hm n=>exact .Ei (m.uk _ hu) ((m.gk _ hu).trans b) hm n
 | A1 q o l hc=>exact .A1 q o (λj k off c=>by obtain⟨hu,Z,b,d⟩:=l j k off c;exact⟨m.uk _ hu,Z,(m.gk _ hu).trans b,d⟩) (λj k off c=>by obtain⟨hu,Z,b,d⟩:=hc j k off c;exact⟨m.uk _ hu,Z,(m.gk _ hu).trans b,d⟩)
theorem cZ.Qs(m:cZ w p g u w' p' g' u'){v:Value}{a:AV}(h:yo w p g u v a):yo w' p' g' u' v a:=by
 rcases h with h | ⟨c8,cs,rfl,rfl,h⟩
 .exact .inl (m.EJ h)
 .exact .inr ⟨c8,cs,rfl,rfl,h.imp λ_ _=>m.EJ⟩
theorem cZ.BJ(m:cZ w p g u w' p' g' u'){v:Value}{a:AV}(h:bw w p g u v a):bw w' p' g' u' v a:=by
 rcases h with h | h | ⟨c8,cs,rfl,rfl,h⟩
 .exact .inl h
 .exact .inr (.inl (m.Qs h))
 .exact .inr (.inr ⟨c8,cs,rfl,rfl,h.imp λ_ _=>m.Qs⟩)
end
variable {w':World}{p:bF}{p':bF}{Z:Nat}{e:Nat}{els:List AV}{k:Nat}{B:Nat}{g:Nat->Value}{M:Nat->Prop}
def lV(w:World)(B e size:Nat)(v:Value)(n:Nat)(xs:List Value):Prop :=
 xs.length=n*size/\((n=0/\∃ a,v = .slice a 0 0) \/
  ∃ Z cap b,v = .slice (Zz ⟨Z,0,none⟩) n cap/\0<cap/\B<=Z/\w.heap[Z]? = Zz (.cells b e (0,0))/\n<=cap/\cap<=maxLen/\b.size=cap*size/\b.toList.take (n*size)=xs)
def used(st:Nat->bI)(k:Nat):Prop:=st k ≠ .free
def xx(w:World)(p:bF)(Z e sz cap:Nat)(els:List AV):Prop :=
 0<sz/\(∀ x∈els,x.cells.length=sz)/\0<cap/\els.length<=cap/\cap<=maxLen/\p Z=0/\∃ a vs,w.heap[Z]? = Zz (.cells a e (0,0))/\a.size=cap*sz/\vs.length=els.length*sz/\a.toList.take (els.length*sz)=vs/\aT (bZ w p) vs (els.flatMap AV.cells)
def z6(w:World)(p:bF)(s:Bool)(kd:IntKind)(es:Array MapEntry)(els:List AV):Prop :=
 es.size=els.length/\∀ (i:Nat) (e:MapEntry) (a:AV),es[i]? = Zz e->els[i]? = Zz a->∃ c b,a = .bp [c,b]/\rn s kd c=Zn/\bZ w p e.key c/\(bZ w p e.val b\/∃ c8 cs,e.val = .agg c8/\b = .agg cs/\aT (bZ w p) c8.toList cs)
theorem xx.keep{w:World}{sz cap:Nat}(h:xx w p Z e sz cap els)(d:∀ v a,bZ w p v a->bZ w' p' v a)(q:w'.heap[Z]? = w.heap[Z]?)(o:p' Z=p Z):xx w' p' Z e sz cap els:=by
 obtain⟨n,m,l,k,j,h6,c,vs,i,g,f,r,b⟩:=h;exact⟨n,m,l,k,j,o.trans h6,c,vs,q.trans i,g,f,r,b.imp d⟩
theorem z6.mono{w:World}{s:Bool}{kd:IntKind}{es:Array MapEntry}(h:z6 w p s kd es els)(b:∀ v a,bZ w p v a->bZ w' p' v a):z6 w' p' s kd es els:=by
 refine⟨h.1,λi e a he g=> ?_⟩;obtain⟨f,d,l,k,j,c⟩:=h.2 i e a he g;refine⟨f,d,l,k,b _ _ j,?_⟩;rcases c with c | ⟨c8,cs,o,n,m⟩
 .exact .inl (b _ _ c)
 .exact .inr ⟨c8,cs,o,n,m.imp b⟩
def nJ(w:World)(p:bF)(g:Nat->Value)(u:Nat->Prop)(B:Nat)(M:Nat->Prop)(k:Nat):bI->Prop
 | .free=>True
 | .dead=>True
 | .cells cs=>∃ Z c e,g k = .pointer (Zz ⟨Z,0,none⟩)/\(M Z\/B<=Z)/\w.heap[Z]? = Zz (.cells c e (0,0))/\aT (cR w p g u) c.toList cs/\p Z=0
 | .jG l iS=>∃ Z c e,g k = .pointer (Zz ⟨Z,0,none⟩)/\B<=Z/\w.heap[Z]? = Zz (.cells c e (0,0))/\c.toList=l.map kU/\p Z<=l.length/\(iS=Zv->p Z=0)
 | .fm e l iS=>lV w B e 1 (g k) l.length (l.map kU)/\∀ Z,bR (g k)=Zz Z->p Z<=l.length/\(iS=Zv->p Z=0)
 | .cF e sz els iS=>0<sz/\(∀ x∈els,x.cells.length=sz)/\∃ vs,lV w B e sz (g k) els.length vs/\aT (bZ w p) vs (els.flatMap AV.cells) /\
   ∀ Z,bR (g k)=Zz Z->p Z<=els.length*sz/\(iS=Zv->p Z=0)
 | .oV s kd els=>∃ Z es clock,g k = .map (Zz Z)/\B<=Z/\w.heap[Z]? = Zz (.map es clock)/\z6 w p s kd es els/\p Z=0
 | .jp e sz els=>∃ Z cap,g k = .slice (Zz ⟨Z,0,none⟩) els.length cap/\(M Z\/B<=Z)/\xx w p Z e sz cap els
def bI.live:bI->Prop
 | .free=>False
 | .dead=>False
 | _=>True
structure ch (B:Nat) (M:Nat->Prop) (w0:World) (p0:bF) (w:World) (p:bF) (g:Nat->Value) (st:Nat->bI):Prop where
 os:w.os=w0.os
 tape:w.tape=w0.tape
 output:w.output=w0.output
 size:B<=w.heap.size
 old:∀ Z,Z<B->¬ M Z->w.heap[Z]? = w0.heap[Z]?
 mc:∀ k,nJ w p g (used st) B M k (st k)
 uB:∀ k k' Z,k≠k'->(st k).live->(st k').live->bR (g k)=Zz Z->bR (g k')≠Zz Z
 nl:∀ Z,w.heap.size<=Z->p Z=0
 P7:∀ Z,Z<B->p Z=p0 Z
theorem fo{w:World}{i:Nat}{c:Array Value}{e:TypeId}{f:Nat×Nat}(h:w.heap[Z]? = Zz (.cells c e f)):w.cell? ⟨Z,i,none⟩=c[i]? := by
 simp[World.cell?,h]
theorem rj{w:World}{o:Obj}(h:w.heap[Z]? = Zz o):Z<w.heap.size:=(Array.getElem?_eq_some_iff.1 h).1
theorem pZ{w:World}(h:w'.heap[Z]? = w.heap[Z]?)(i:Nat):w'.cell? ⟨Z,i,none⟩=w.cell? ⟨Z,i,none⟩:=by
 simp[World.cell?,h]
theorem aM{Z:Type}(f:Nat->Z)(k:Nat)(b:Z):cQ f k b k=b:=by simp[cQ]
theorem bX{Z:Type}(f:Nat->Z){x:Nat}(b:Z)(h:x≠k):cQ f k b x=f x:=by
 have a:Zy x k=Zv:=by
  cases a:Zy x k;all_goals simp_all
 simp[cQ,a]
theorem lV.keep{w:World}{size:Nat}{v:Value}{n:Nat}{xs:List Value}(h:lV w B e size v n xs)(b:∀ Z,bR v=Zz Z->w'.heap[Z]? = w.heap[Z]?):lV w' B e size v n xs:=by
 obtain⟨hl,h | ⟨Z,cap,a,rfl,f,d,c,r⟩⟩:=h
 .exact⟨hl,.inl h⟩
 .exact⟨hl,.inr ⟨Z,cap,a,rfl,f,d,by rw[b Z (by simp[bR];omega)];exact c,r⟩⟩
theorem nJ.keep{w w':World}{p p':bF}{g g':Nat->Value}{u u':Nat->Prop}{B:Nat}{M:Nat->Prop}{k:Nat}{b:bI}(h:nJ w p g u B M k b)(m:cZ w p g u w' p' g' u')(hu:u k)
  (n:∀ Z,bR (g k)=Zz Z->w'.heap[Z]? = w.heap[Z]? /\ p' Z=p Z):nJ w' p' g' u' B M k b:=by
 have o:=m.gk k hu;cases b with
 | free=>trivial
 | dead=>trivial
 | cells cs =>
  obtain⟨Z,c,e,a,f,d,q,t⟩:=h;obtain⟨j,i⟩:=n Z (by rw[a];rfl);exact⟨Z,c,e,o.trans a,f,j.trans d,q.imp λ_ _=>m.EJ,i.trans t⟩
 | jG l iS =>
  obtain⟨Z,c,e,a,f,d,q,t,h6⟩:=h;obtain⟨j,i⟩:=n Z (by rw[a];rfl);exact⟨Z,c,e,o.trans a,f,j.trans d,q,by rw[i];exact t,λx=>i.trans (h6 x)⟩
 | fm e l iS =>
  obtain⟨a,f⟩:=h;refine⟨by rw[o];exact a.keep λZ r=>(n Z r).1,λZ r=> ?_⟩
  grind
 | cF e v els iS =>
  obtain⟨y,a,vs,f,d,q⟩:=h;refine⟨y,a,vs,by rw[o];exact f.keep λZ r=>(n Z r).1,d.imp λ_ _=>m.wM,λZ r=> ?_⟩
  grind
 | oV s kd els =>
  obtain⟨Z,es,clock,a,f,d,q,t⟩:=h;obtain⟨j,i⟩:=n Z (by rw[a];rfl);exact⟨Z,es,clock,o.trans a,f,j.trans d,q.mono λ_ _=>m.wM,i.trans t⟩
 | jp e v els =>
  obtain⟨Z,cap,a,f,d⟩:=h;obtain⟨j,i⟩:=n Z (by rw[a];have:=d.2.2.1;simp[bR];omega);exact⟨Z,cap,o.trans a,f,d.keep (λ_ _=>m.wM) j i⟩
variable {st:Nat->bI}
theorem p_(h:(st k).live):used st k:=λe=>by rw[e] at h;exact h
theorem nJ.wC{w:World}{u:Nat->Prop}{b:bI}(h:nJ w p g u B M k b)(hl:b.live)(d:bR (g k)=Zz Z):Z<w.heap.size:=by
 cases b with
 | free=>exact hl.elim
 | dead=>exact hl.elim
 | cells cs=>obtain⟨f,c,e,i,m,j,_⟩:=h;rw[i] at d;cases d;exact rj j
 | jG l iS=>obtain⟨f,c,e,i,m,j,_⟩:=h;rw[i] at d;cases d;exact rj j
 | fm e l iS =>
  obtain⟨⟨_,⟨_,a,h⟩ | ⟨f,cap,n,h,t,r,q,_⟩⟩,_⟩:=h
  .rw[h] at d;cases a<;>simp[bR] at d
  .rw[h] at d;have:f=Z:=by simp[bR] at d;exact d.2
   grind
 | cF e o els iS =>
  obtain⟨_,_,vs,⟨_,⟨_,a,h⟩ | ⟨f,cap,n,h,t,r,q,_⟩⟩,_⟩:=h
  .rw[h] at d;cases a<;>simp[bR] at d
  .rw[h] at d;have:f=Z:=by simp[bR] at d;exact d.2
   grind
 | oV s kd els=>obtain⟨f,es,clock,i,m,j,_⟩:=h;rw[i] at d;cases d;exact rj j
 | jp e o els =>
  obtain⟨f,cap,i,m,j,A,z,h6,y,x,n,vs,v,_⟩:=h;rw[i] at d;have:f=Z:=by simp[bR] at d;exact d.2
  grind
theorem ch.change{w0:World}{p0:bF}{w:World}{g':Nat->Value}{st':Nat->bI}(h:ch B M w0 p0 w p g st)(q:w'.os=w.os)(C:w'.tape=w.tape)(A:w'.output=w.output)(x:w.heap.size<=w'.heap.size)(K D:Nat->Prop)(l:∀ k,¬ K k->st' k=st k)(hu:∀ k,used st k->used st' k)(j:∀ k,used st k->g' k=g k)(e:∀ Z,Z<w.heap.size->¬ D Z->w'.heap[Z]? = w.heap[Z]? /\ p' Z=p Z)(o:∀ Z,D Z->Z<B->M Z/\p' Z=p Z)(r:∀ Z,p Z<=p' Z)(hcell:∀ Z i,i<p Z->w'.cell? ⟨Z,i,none⟩=w.cell? ⟨Z,i,none⟩)(z:∀ Z,w'.heap.size<=Z->p' Z=0)(m:∀ k Z,¬ K k->(st k).live->bR (g k)=Zz Z->¬ D Z)(v:∀ k,K k->nJ w' p' g' (used st') B M k (st' k))(y:∀ k k' Z,K k->k'≠k->(st' k).live->(st' k').live->bR (g' k)=Zz Z->bR (g' k')≠Zz Z):
  ch B M w0 p0 w' p' g' st'/\cZ w p g (used st) w' p' g' (used st'):=by
 have hm:cZ w p g (used st) w' p' g' (used st'):=⟨r,hcell,j,hu⟩;refine⟨⟨q.trans h.os,C.trans h.tape,A.trans h.output,Nat.le_trans h.size x,λZ a n=> ?_,λk=> ?_,λk k' Z t hl d b=> ?_,z,λZ a=> ?_⟩,hm⟩
 .have f:¬ D Z:=λhd=>n (o Z hd a).1;exact(e Z (Zf a h.size) f).1.trans (h.old Z a n)
 .by_cases c:K k
  .exact v k c
  .have hs:=l k c;rw[hs];by_cases hl:(st k).live
   .exact(h.mc k).keep hm (p_ hl) λZ b=>e Z ((h.mc k).wC hl b) (m k Z c hl b)
   .cases u:st k<;>first | trivial | (rw[u] at hl;exact absurd trivial hl)
 .by_cases c:K k
  .grind
  .by_cases s:K k'
   .grind
   .rw[l k c] at hl;rw[l k' s] at d;rw[j k (p_ hl)] at b;rw[j k' (p_ d)];exact h.uB k k' Z t hl d b
 .by_cases hd:D Z
  .exact(o Z hd a).2.trans (h.P7 Z a)
  .exact(e Z (Zf a h.size) hd).2.trans (h.P7 Z a)
section
variable {B:Nat} {M:Nat->Prop} {w0:World} {p0:bF} {w w':World} {p p':bF} {g:Nat->Value} {st:Nat->bI}
variable {t:Nat}{b:bI}{k:Nat}
theorem qR(a:b ≠ .free)(h:used st k):used (cQ st t b) k:=by
 by_cases e:k=t
 .subst e;unfold used;rw[aM];exact a
 .unfold used;rw[bX _ _ e];exact h
theorem ch.add(h:ch B M w0 p0 w p g st){v:Value}(s:st t = .free)(x:b ≠ .free)(n:w'.os=w.os)(E:w'.tape=w.tape)(D:w'.output=w.output)(A:w.heap.size<=w'.heap.size)(f:∀ Z,Z<w.heap.size->w'.heap[Z]? = w.heap[Z]? /\ p' Z=p Z)(c:∀ Z,p Z<=p' Z)(C:∀ Z,w'.heap.size<=Z->p' Z=0)(r:∀ Z,bR v=Zz Z->w.heap.size<=Z)(y:cZ w p g (used st) w' p' (cQ g t v) (used (cQ st t b))->nJ w' p' (cQ g t v) (used (cQ st t b)) B M t b):
  ch B M w0 p0 w' p' (cQ g t v) (cQ st t b)/\cZ w p g (used st) w' p' (cQ g t v) (used (cQ st t b)):=by
 have hu:∀ k,used st k->used (cQ st t b) k:=λk a=>qR x a;have l:∀ k,used st k->cQ g t v k=g k:=λk a=>bX _ _ (λe=>by subst e;exact a s);have hcell:∀ Z i,i<p Z->w'.cell? ⟨Z,i,none⟩=w.cell? ⟨Z,i,none⟩:=λZ i u=>by
  rcases Nat.lt_or_ge Z w.heap.size with z | F
  .exact pZ (f Z z).1 i
  .rw[h.nl Z F] at u;omega
 refine h.change n E D A (λk=>k=t) (λ_=>False) (λk a=>bX _ _ a) hu l (λZ q _=>f Z q) (λ_ hd=>hd.elim) c hcell C (λ_ _ _ _ _ hd=>hd.elim) ?_ ?_
 .rintro k rfl;rw[aM];exact y ⟨c,hcell,l,hu⟩
 .rintro k k' Z rfl o _ d m j;rw[aM] at m;rw[bX _ _ o] at d j;have H:=r Z m;have G:=(h.mc k').wC d j;omega
theorem ch.modify(h:ch B M w0 p0 w p g st){β₀:Nat}(f:(st k).live)(n:b.live)(d:bR (g k)=Zz β₀)(r:w'.os=w.os)(C:w'.tape=w.tape)(A:w'.output=w.output)(G:w'.heap.size=w.heap.size)(c:∀ Z,Z≠β₀->w'.heap[Z]? = w.heap[Z]? /\ p' Z=p Z)(x:β₀<B->M β₀/\p' β₀=p β₀)(D:p β₀<=p' β₀)(hcell:∀ i,i<p β₀->w'.cell? ⟨β₀,i,none⟩=w.cell? ⟨β₀,i,none⟩)(u:cZ w p g (used st) w' p' g (used (cQ st k b))->nJ w' p' g (used (cQ st k b)) B M k b):
  ch B M w0 p0 w' p' g (cQ st k b)/\cZ w p g (used st) w' p' g (used (cQ st k b)):=by
 have y:b ≠ .free:=λe=>by rw[e] at n;exact n
 have hu:∀ j,used st j->used (cQ st k b) j:=λj a=>qR y a;have F:β₀<w.heap.size:=(h.mc k).wC f d;have q:∀ Z,p Z<=p' Z:=λZ=>by
  grind
 have o:∀ Z i,i<p Z->w'.cell? ⟨Z,i,none⟩=w.cell? ⟨Z,i,none⟩:=λZ i E=>by
  by_cases e:Z=β₀
  .grind
  .exact pZ (c Z e).1 i
 refine h.change r C A (by omega) (λj=>j=k) (λZ=>Z=β₀) (λj a=>bX _ _ a) hu (λ_ _=>rfl) (λZ _ hd=>c Z hd) (λZ hd v=>by subst hd;exact x v) q o ?_ ?_ ?_ ?_
 .intro Z d;rw[(c Z (by omega)).2];exact h.nl Z (by omega)
 .rintro j Z a hl t rfl;exact h.uB j k Z a hl f t d
 .rintro j rfl;rw[aM];exact u ⟨q,o,λ_ _=>rfl,hu⟩
 .rintro j j' Z rfl m _ l z s;rw[bX _ _ m] at l;exact h.uB j j' Z (Ne.symm m) f l z s
end
end Go.Abs
/- The types' facts; constants; operations that touch no memory. -/
namespace Go.Abs
variable {P:Program}{t:Nat}{i:TI}{e:Nat}{b:Bool}{k:IntKind}{info:TypeInfo}{p:bF}
theorem bq(h:fq P t=Zz i):∃ info z,P.info? t=Zz info/\info.size=i.size/\info.bytes=i.bytes/\info.zero=Zz z/\ry z.cells.toList=Zz i.zero/\i.zero.length=i.size/\i.iN.length=i.size/\gX P t=Zz i.kind/\NE P 20 t=Zz i.iN/\i.F6=(if P.eqGuardType P.depth t=Zv then(wV P 20 t).getD [] else[]):=by
 unfold fq at h;split at h
 .rename_i info k b e d c;cases a:info.zero with
  | none=>simp[a] at h
  | some z =>
   grind
 .cases h
theorem PZ(h:fq P t=Zz i):∃ info,P.info? t=Zz info/\Ih info.zero i.kind=Zn:=by
 unfold fq at h
 grind
theorem eO(h:gX P t=Zz (.slice e b)):P.underlying t=Zz (.slice e)/\b=Ey P e:=by grind [gX]
theorem sC{n:Nat}(h:gX P t=Zz (.c8 n e b)):P.underlying t=Zz (.array n e)/\b=Ey P e:=by grind [gX]
theorem SV(h:gX P t=Zz (.ptr e)):P.underlying t=Zz (.pointer e):=by grind [gX]
theorem nf(h:gX P t=Zz .str):P.underlying t=Zz .string:=by grind [gX]
theorem Fj(h:gX P t=Zz .bool):P.underlying t=Zz .bool:=by grind [gX]
theorem N3(h:gX P t=Zz .u8):P.underlying t=Zz (.int .u8):=by grind [gX]
theorem C4(h:gX P t=Zz (.int k)):P.underlying t=Zz (.int k)/\k ≠ .u8:=by grind [gX]
theorem oQ{a:List (Nat × Nat)}(h : gX P t = Zz (.struct a)): ∃ fields, P.underlying t = Zz (.struct fields) ∧ (∀ f ∈ fields.toList, sized P f.type = Zn ∧ f.name ≠ "_") ∧ a = fields.toList.map λf => (f.offset, f.type) := by grind [gX]
theorem zk{k:Nat}(h:gX P t=Zz (.map k e)):P.underlying t=Zz (.map k e):=by grind [gX]
theorem Mf(h:gX P t=Zz .other):∃ a b c,P.underlying t=Zz (.func a b c):=by grind [gX]
theorem jA(h:Ey P e=Zn):P.underlying e=Zz (.int .u8)/\∃ info,P.info? e=Zz info/\info.size=1/\info.bytes=1/\info.zero=Zz (.int .u8 0):=by
 unfold Ey at h
 grind
theorem qd{k:TK}(h:gX P t=Zz k)(w:World):(isAgg t).run P w = .ok (dv k) w:=by
 unfold isAgg;cases k with
 | int k=>simp[run_underlying (C4 h).1,dv]
 | u8=>simp[run_underlying (N3 h),dv]
 | bool=>simp[run_underlying (Fj h),dv]
 | str=>simp[run_underlying (nf h),dv]
 | slice e b=>simp[run_underlying (eO h).1,dv]
 | c8 n e b=>simp[run_underlying (sC h).1,dv]
 | struct d=>obtain⟨fields,hu,_⟩:=oQ h;simp[run_underlying hu,dv]
 | ptr e=>simp[run_underlying (SV h),dv]
 | map a b=>simp[run_underlying (zk h),dv]
 | other=>obtain⟨a,b,c,hu⟩:=Mf h;simp[run_underlying hu,dv]
theorem run_sizeOf(h:P.info? t=Zz info)(w:World):(sizeOf t).run P w = .ok info.size w:=by
 simp[sizeOf,typeInfo,h]
theorem jq{z:Value}(h:P.info? t=Zz info)(a:info.zero=Zz z)(w:World):(zeroValue t).run P w = .ok z w:=by
 simp[zeroValue,typeInfo,h,a]
theorem Tb(a:k ≠ .u8)(n:Int):oW k n = .int k n:=by cases k<;>first | rfl | exact absurd rfl a
theorem g7{w:World}{n:Int}(h:k = .u8->0<=n/\n<256):bZ w p (.int k n) (oW k n):=by
 by_cases a:k = .u8
 .subst a;obtain⟨c,b⟩:=h rfl;have e:(Value.int .u8 n)=kU (UInt8.ofNat n.toNat):=by
   unfold kU;congr 1;rw[UInt8.toNat_ofNat'];omega
  rw[e];exact .u8
 .rw[Tb a];exact .int a
theorem wrap_u8(n:Int):0<=IntKind.u8.wrap n/\IntKind.u8.wrap n<256:=by
 unfold IntKind.wrap;simp[IntKind.bits,IntKind.signed];omega
theorem Dj{w:World}{v:Value}{a:AV}(h:Hw v=Zz a):bZ w p v a:=by
 unfold Hw at h;split at h
 .cases h;exact .bool
 .rename_i k n;split at h
  .cases hc:(Zx (0<=n)&&Zx (n<256)) with
   | false=>simp[hc] at h
   | true =>
    rw[hc] at h;have c:AV.u8 (UInt8.ofNat n.toNat)=a:=by simpa using h
    subst c;simp at hc;exact g7 (k := .u8) λ_=>hc
  .rename_i b;cases h;exact .int λe=>b e
 .cases h;exact .str rfl
 .cases h;exact .bJ
 .cases h;exact .mr
 .cases h;exact .Az
 .cases h;exact .sJ
 .cases h
theorem f_{w:World}{p:bF}:∀ {vs:List Value} {as:List AV},ry vs=Zz as->aT (bZ w p) vs as
 | [],as,h=>by simp[ry] at h;subst h;exact .nil
 | v::r,as,h=>by
  simp only[ry] at h;split at h
  .rename_i a l c b;cases h;exact .cons (Dj c) (f_ b)
  .cases h
section
variable {w:World} {p:bF} {g:Nat->Value} {u:Nat->Prop}
theorem P6{v:Value}{a:AV}(h:Tj v=Zz a):bw w p g u v a:=by
 unfold Tj at h;split at h
 .rename_i cs;cases hc:ry cs.toList with
  | none=>simp[hc] at h
  | some l =>
   simp[hc] at h;subst h;exact .inr (.inl (.inr ⟨cs,l,rfl,rfl,(f_ hc).imp λ_ _ => .js⟩))
 .exact .inr (.inl (.inl (.js (Dj h))))
theorem bZ.u3{v:Value}{a:AV}(h:bZ w p v a):v.cells = #[v]/\v.oneCell'=Zn/\a.cells=[a]/\a.d_=Zn:=by
 cases h<;>simp[Value.cells,Value.oneCell',AV.cells,AV.d_,kU]
theorem cR.u3{v:Value}{a:AV}(h:cR w p g u v a):v.cells = #[v]/\v.oneCell'=Zn/\a.cells=[a]/\a.d_=Zn:=by
 cases h with
 | js h=>exact h.u3
 | ptr=>simp[Value.cells,Value.oneCell',AV.cells,AV.d_]
 | jQ=>simp[Value.cells,Value.oneCell',AV.cells,AV.d_]
 | row hu b=>obtain⟨a,l,c,e⟩:=b;rw[e];simp[Value.cells,Value.oneCell',AV.cells,AV.d_]
 | mp=>simp[Value.cells,Value.oneCell',AV.cells,AV.d_]
 | bL hu b=>obtain⟨a,l,c,e⟩:=b;rw[e];simp[Value.cells,Value.oneCell',AV.cells,AV.d_]
 | bY=>simp[Value.cells,Value.oneCell',AV.cells,AV.d_]
 | pQ=>simp[Value.cells,Value.oneCell',AV.cells,AV.d_]
 | pre=>simp[Value.cells,Value.oneCell',AV.cells,AV.d_]
 | Ei=>simp[Value.cells,Value.oneCell',AV.cells,AV.d_]
 | A1=>simp[Value.cells,Value.oneCell',AV.cells,AV.d_]
theorem bw.cells{v:Value}{a:AV}(h:bw w p g u v a)(hc:a.cells.all AV.d_=Zn):aT (cR w p g u) v.cells.toList a.cells:=by
 rcases h with rfl | (h | ⟨c8,cs,rfl,rfl,h⟩) | ⟨c8,cs,rfl,rfl,h⟩
 .simp[AV.cells,AV.d_] at hc
 .rw[h.u3.1,h.u3.2.2.1];exact .cons h .nil
 .exact h
 .simp[AV.cells,AV.d_] at hc
theorem aT.one{vs:List Value}{cs:List AV}(h:aT (cR w p g u) vs cs):∀ v∈vs,v.oneCell'=Zn:=by
 intro v b;obtain⟨i,a⟩:=List.getElem?_of_mem b;have c:i<cs.length:=by rw[<-h.len];exact(Zp.1 a).1
 exact(h.each i v _ a (Zb c)).u3.2.1
theorem aT.ab8{vs:List Value}{cs:List AV}(h:aT (bZ w p) vs cs):∀ v∈vs,v.oneCell'=Zn:=by
 intro v b;obtain⟨i,a⟩:=List.getElem?_of_mem b;have c:i<cs.length:=by rw[<-h.len];exact(Zp.1 a).1
 exact(h.each i v _ a (Zb c)).u3.2.1
theorem bw.int{v:Value}{k:IntKind}{n:Int}(h:bw w p g u v (.int k n)):v = .int k n/\k ≠ .u8:=by
 rcases h with h | (h | ⟨c8,cs,_,h,_⟩) | ⟨c8,cs,_,h,_⟩<;>first | cases h
 rename_i h;cases h;exact⟨rfl,by assumption⟩
theorem bw.u8{v:Value}{b:UInt8}(h:bw w p g u v (.u8 b)):v=kU b:=by
 rcases h with h | (h | ⟨c8,cs,_,h,_⟩) | ⟨c8,cs,_,h,_⟩<;>first | cases h
 rename_i h;cases h;rfl
theorem bw.bool{v:Value}{b:Bool}(h:bw w p g u v (.bool b)):v = .bool b:=by
 rcases h with h | (h | ⟨c8,cs,_,h,_⟩) | ⟨c8,cs,_,h,_⟩<;>first | cases h
 rename_i h;cases h;rfl
theorem bw.str{v:Value}{l:List UInt8}(h:bw w p g u v (.str l)):∃ s:ByteArray,v = .string s/\s.data.toList=l:=by
 rcases h with h | (h | ⟨c8,cs,_,h,_⟩) | ⟨c8,cs,_,h,_⟩<;>first | cases h
 rename_i h;cases h;exact⟨_,rfl,by assumption⟩
theorem bw.bs{v:Value}{l:List UInt8}(h:bw w p g u v (.bs l)):bZ w p v (.bs l):=by
 rcases h with h | (h | ⟨c8,cs,_,h,_⟩) | ⟨c8,cs,_,h,_⟩<;>first | cases h
 assumption
theorem bw.sl{v:Value}{z:Nat}{l:List AV}(h:bw w p g u v (.sl z l)):bZ w p v (.sl z l):=by
 rcases h with h | (h | ⟨c8,cs,_,h,_⟩) | ⟨c8,cs,_,h,_⟩<;>first | cases h
 assumption
theorem bw.bJ{v:Value}(h:bw w p g u v .bJ):∃ a,v = .slice a 0 0:=by
 rcases h with h | (h | ⟨c8,cs,_,h,_⟩) | ⟨c8,cs,_,h,_⟩<;>first | cases h
 rename_i h;cases h;exact⟨_,rfl⟩
theorem bw.row{v:Value}{k:Nat}(h:bw w p g u v (.row k)):u k/\v=g k/\∃ a l c,g k = .slice a l c:=by
 rcases h with h | (h | ⟨c8,cs,_,h,_⟩) | ⟨c8,cs,_,h,_⟩<;>first | cases h
 .rename_i h;cases h
 all_goals grind
theorem bw.ptr{v:Value}{k off:Nat}(h:bw w p g u v (.ptr k off)):u k/\∃ Z,g k = .pointer (Zz ⟨Z,0,none⟩)/\v = .pointer (Zz ⟨Z,off,none⟩):=by
 rcases h with h | (h | ⟨c8,cs,_,h,_⟩) | ⟨c8,cs,_,h,_⟩<;>first | cases h
 .rename_i h;cases h
 all_goals grind
theorem bw.jQ{v:Value}{k i sz off:Nat}(h:bw w p g u v (.jQ k i sz off)):u k/\∃ Z,bR (g k)=Zz Z/\v = .pointer (Zz ⟨Z,i*sz+off,none⟩):=by
 rcases h with h | (h | ⟨c8,cs,_,h,_⟩) | ⟨c8,cs,_,h,_⟩<;>first | cases h
 .rename_i h;cases h
 all_goals grind
theorem bw.bL{v:Value}{k e sz:Nat}(h:bw w p g u v (.bL k e sz)):u k/\v=g k/\∃ a l c,g k = .slice a l c:=by
 rcases h with h | (h | ⟨c8,cs,_,h,_⟩) | ⟨c8,cs,_,h,_⟩<;>first | cases h
 .rename_i h;cases h
 all_goals grind
theorem bw.mp{v:Value}{k:Nat}(h:bw w p g u v (.mp k)):u k/\∃ Z,g k = .map (Zz Z)/\v = .map (Zz Z):=by
 rcases h with h | (h | ⟨c8,cs,_,h,_⟩) | ⟨c8,cs,_,h,_⟩<;>first | cases h
 .rename_i h;cases h
 all_goals grind
theorem bw.jX{v:Value}{cs:List AV}(h:bw w p g u v (.jX cs)):bZ w p v (.jX cs):=by
 rcases h with h | (h | ⟨c8,cs,_,h,_⟩) | ⟨c8,cs,_,h,_⟩<;>first | cases h
 assumption
theorem bw.pQ{v:Value}{k off:Nat}(h:bw w p g u v (.pQ k off)):u k/\∃ Z j b,g k = .pointer (Zz ⟨b,0,none⟩)/\v = .pointer (Zz ⟨Z,j,none⟩)/\w.cell? ⟨Z,j,none⟩=Zz (.pointer (Zz ⟨b,off,none⟩)):=by
 rcases h with h | (h | ⟨c8,cs,_,h,_⟩) | ⟨c8,cs,_,h,_⟩<;>first | cases h
 .rename_i h;cases h
 all_goals grind
theorem bw.bY{v:Value}{k:Nat}{a:List Nat}(h:bw w p g u v (.bY k a)):u k/\∃ Z b cap,g k = .pointer (Zz ⟨b,0,none⟩)/\v = .slice (Zz ⟨Z,0,none⟩) a.length cap/\∀ (j off:Nat),a[j]? = Zz off->j<p Z/\w.cell? ⟨Z,j,none⟩=Zz (.pointer (Zz ⟨b,off,none⟩)):=by
 rcases h with h | (h | ⟨c8,cs,_,h,_⟩) | ⟨c8,cs,_,h,_⟩<;>first | cases h
 .rename_i h;cases h
 all_goals grind
theorem bw.fn{v:Value}{f:Nat}(h:bw w p g u v (.fn f)):v = .func (.func f) #[] #[]:=by
 rcases h with h | (h | ⟨c8,cs,_,h,_⟩) | ⟨c8,cs,_,h,_⟩<;>first | cases h
 rename_i h;cases h;rfl
theorem bw.A1{v:Value}{f:Nat}{a cs:List (Nat×Nat)}(h:bw w p g u v (.A1 f a cs)):∃ vs us:Array Value,v = .func (.func f) vs us/\aT (bw w p g u) vs.toList (mv a)/\aT (bw w p g u) us.toList (mv cs):=by
 have key:∀ {vs:Array Value} {a:List (Nat×Nat)},vs.size=a.length->(∀ (j k off:Nat),a[j]? = Zz (k,off)->u k/\∃ Z,g k = .pointer (Zz ⟨Z,0,none⟩)/\vs[j]? = Zz (.pointer (Zz ⟨Z,off,none⟩)))->aT (bw w p g u) vs.toList (mv a):=by
  intro vs a d b;refine⟨by simp[mv,d],λi v c o hc=> ?_⟩;simp only[mv,List.getElem?_map,Option.map_eq_some_iff] at hc;obtain⟨⟨k,off⟩,e,rfl⟩:=hc;obtain⟨hu,Z,l,n⟩:=b i k off e;have:v = .pointer (Zz ⟨Z,off,none⟩):=by
   grind
  subst this;exact .inr (.inl (.inl (.ptr hu l)))
 rcases h with h | (h | ⟨c8,cs,_,h,_⟩) | ⟨c8,cs,_,h,_⟩
 .cases h
 .cases h with
  | js h=>cases h
  | A1 d b m hc=>exact⟨_,_,rfl,key d m,key b hc⟩
 .cases h
 .cases h
theorem bw.pre{v:Value}{k n:Nat}(h:bw w p g u v (.pre k n)):u k/\∃ Z l cap,g k = .slice (Zz ⟨Z,0,none⟩) l cap/\n<=l/\v = .slice (Zz ⟨Z,0,none⟩) n cap:=by
 rcases h with h | (h | ⟨c8,cs,_,h,_⟩) | ⟨c8,cs,_,h,_⟩<;>first | cases h
 .rename_i h;cases h
 all_goals grind
theorem bw.Ei{v:Value}{k m z:Nat}(h:bw w p g u v (.Ei k m z)):u k/\∃ Z l cap a,g k = .slice (Zz ⟨Z,0,none⟩) l cap/\m<=l/\(m=l\/a=Zz ⟨Z,m*z,none⟩)/\v = .slice a (l-m) (cap-m):=by
 rcases h with h | (h | ⟨c8,cs,_,h,_⟩) | ⟨c8,cs,_,h,_⟩<;>first | cases h
 .rename_i h;cases h
 all_goals grind
theorem bw.agg{v:Value}{cs:List AV}(h:bw w p g u v (.agg cs)):∃ c8,v = .agg c8/\aT (cR w p g u) c8.toList cs:=by
 rcases h with h | (h | ⟨c8,a,rfl,h,hc⟩) | ⟨c8,cs,_,h,_⟩
 .cases h
 .cases h with | js h=>cases h
 all_goals grind
theorem bw.bp{v:Value}{as:List AV}(h:bw w p g u v (.bp as)):∃ c8,v = .tuple c8/\aT (yo w p g u) c8.toList as:=by
 rcases h with h | (h | ⟨c8,a,rfl,h,hc⟩) | ⟨c8,b,rfl,h,hc⟩
 .cases h
 .cases h with | js h=>cases h
 all_goals grind
theorem bZ.v{v:Value}{a:AV}(h:bZ w p v a):bw w p g u v a := .inr (.inl (.inl (.js h)))
theorem cR.v{v:Value}{a:AV}(h:cR w p g u v a):bw w p g u v a := .inr (.inl (.inl h))
end
end Go.Abs
/- Operations on memory: new blocks, loads, stores. -/
namespace Go.Abs
section
variable {P:Program} {B:Nat} {M:Nat->Prop} {w0:World} {p0:bF} {w:World} {p:bF} {g:Nat->Value}
variable {st:Nat->bI}{v':Value}{r:Result Value}{Z:Nat}{t:Nat}{α:Type}{fr:Fr}{e:Nat}{i:TI}{k:lM α}{a:AV}{off:Nat}{vs:List Value}{E:Env}
def Good(B:Nat)(M:Nat->Prop)(w0:World)(p0:bF)(w:World)(p:bF)(g:Nat->Value)(st:Nat->bI)(v:AV)(st':Nat->bI)(r:Result Value):Prop :=
 ∃ v' w' p' g',r = .ok v' w'/\ch B M w0 p0 w' p' g' st'/\cZ w p g (used st) w' p' g' (used st')/\bw w' p' g' (used st') v' v
theorem Good.same{v:AV}(h:ch B M w0 p0 w p g st)(b:r = .ok v' w)(a:bw w p g (used st) v' v):Good B M w0 p0 w p g st v st r :=
 ⟨v',w,p,g,b,h,cZ.refl,a⟩
theorem dW(w:World)(o:Obj)(h:Z<w.heap.size):(w.alloc o).heap[Z]? = w.heap[Z]? := Go.RowKit.Below.heap_alloc w o Z h
theorem fl(w:World)(o:Obj):(w.alloc o).heap[w.heap.size]? = Zz o:=heap_alloc_new w o
theorem ch.mq(h:ch B M w0 p0 w p g st)(o:Obj):∀ Z,(w.alloc o).heap.size<=Z->p Z=0:=λZ a=>h.nl Z (by simp at a;omega)
theorem wX(h:ch B M w0 p0 w p g st)(d:st t = .free)(c:Array Value)(e:TypeId){cs:List AV}(hc:aT (cR w p g (used st)) c.toList cs):
  Good B M w0 p0 w p g st (.ptr t 0) (cQ st t (.cells cs)) (.ok (.pointer (Zz ⟨w.heap.size,0,none⟩)) (w.alloc (.cells c e))):=by
 obtain⟨f,hm⟩:=h.add (w':=w.alloc (.cells c e)) (p':=p) (t:=t) (b := .cells cs) (v := .pointer (Zz ⟨w.heap.size,0,none⟩)) d (by simp) rfl rfl rfl (by simp)
  (λZ a=>⟨dW w _ a,rfl⟩) (λ_=>Zk _) (h.mq _) (λZ a=>by simp[bR] at a;omega)
  (λhm=>⟨w.heap.size,c,e,by rw[aM],.inr h.size,fl w _,hc.imp λ_ _=>hm.EJ,h.nl _ (Zk _)⟩)
 refine⟨_,_,p,_,rfl,f,hm,cR.v (.ptr ?_ (by rw[aM]))⟩;unfold used;rw[aM];simp
theorem GZ(h:ch B M w0 p0 w p g st)(d:st t = .free)(c:Array Value)(e:TypeId){l:List UInt8}(hc:c.toList=l.map kU):
  Good B M w0 p0 w p g st (.ptr t 0) (cQ st t (.jG l Zv)) (.ok (.pointer (Zz ⟨w.heap.size,0,none⟩)) (w.alloc (.cells c e))):=by
 have i:p w.heap.size=0:=h.nl _ (Zk _);obtain⟨f,hm⟩:=h.add (w':=w.alloc (.cells c e)) (p':=p) (t:=t) (b := .jG l Zv) (v := .pointer (Zz ⟨w.heap.size,0,none⟩)) d (by simp) rfl rfl rfl (by simp)
  (λZ a=>⟨dW w _ a,rfl⟩) (λ_=>Zk _) (h.mq _) (λZ a=>by simp[bR] at a;omega)
  (λhm=>⟨w.heap.size,c,e,by rw[aM],h.size,fl w _,hc,by omega,λ_=>i⟩)
 refine⟨_,_,p,_,rfl,f,hm,cR.v (.ptr ?_ (by rw[aM]))⟩;unfold used;rw[aM];simp
theorem B6:∀ {as:List AV} {l:List UInt8},U4 as=Zz l->as=l.map .u8
 | [],l,h=>by simp[U4] at h;subst h;rfl
 | a::r,l,h=>by
  cases a<;>simp[U4] at h;obtain⟨c,b,rfl⟩:=h;rw[B6 b];rfl
theorem yA{R:Value->AV->Prop}(a:∀ v b,R v (.u8 b)->v=kU b):∀ {vs:List Value} {l:List UInt8},aT R vs (l.map .u8)->vs=l.map kU
 | vs,[],h=>h.jw
 | vs,b::l,h=>by
  obtain⟨v,e,rfl,d,c⟩:=h.ii;rw[a v b d,yA a c];rfl
theorem HH{v:Value}{b:UInt8}(h:bZ w p v (.u8 b)):v=kU b:=by cases h;rfl
theorem Qu{info:TypeInfo}{z:Value}(b:P.info? t=Zz info)(a:info.zero=Zz z):
  (Instr.alloc t Zn (.tuple #[])).run P w = .ok (.pointer (Zz ⟨w.heap.size,0,none⟩)) (w.alloc (.cells z.cells t)):=by
 unfold Instr.alloc;simp[jq b a,newVar,newRow]
theorem Qy(j:fq P e=Zz i)(h:ch B M w0 p0 w p g fr.st){r:α}(a:(match i.kind with | .c8 _ _ Zn=>(U4 i.zero).bind λl=>iV fr t (.jG l Zv) (.ptr t 0) k | _=>iV fr t (.cells i.zero) (.ptr t 0) k)=Zz r):
  ∃ v st' f,k v st' f=Zz r/\Good B M w0 p0 w p g fr.st v st' ((Instr.alloc e Zn (.tuple #[])).run P w):=by
 obtain⟨info,z,o,y,x,n,m,h6,u,s,q,_⟩:=bq j;rw[Qu o n];have c:=f_ (w:=w) (p:=p) m;have key:iV fr t (.cells i.zero) (.ptr t 0) k=Zz r->∃ v st' f,k v st' f=Zz r/\Good B M w0 p0 w p g fr.st v st' (.ok (.pointer (Zz ⟨w.heap.size,0,none⟩)) (w.alloc (.cells z.cells e))):=by
  intro a;unfold iV at a;split at a
  .rename_i d;exact⟨_,_,_,a,wX h d _ _ (c.imp λ_ _ => .js)⟩
  .cases a
 split at a
 .cases hl:U4 i.zero with
  | none=>simp[hl] at a
  | some l =>
   simp only[hl,Option.bind_some,iV] at a;split at a
   .rename_i d;refine⟨_,_,_,a,GZ h d _ _ ?_⟩;rw[B6 hl] at c;exact yA (λv b=>HH) c
   .cases a
 .exact key a
theorem Xo{x:Value}(h:ch B M w0 p0 w p g fr.st)(c:bw w p g (used fr.st) x a){r:α}(b:(bif a.cells.length==i.size&&a.cells.all AV.d_ then iV fr t (.cells a.cells) (.ptr t 0) k else none)=Zz r):
  ∃ v st' f,k v st' f=Zz r/\Good B M w0 p0 w p g fr.st v st' ((Instr.box e x).run P w):=by
 cases hc:(a.cells.length==i.size&&a.cells.all AV.d_) with
 | false=>simp[hc] at b
 | true =>
  simp only[hc,Qa6,iV] at b;simp only[Zj] at hc;split at b
  .rename_i d;refine⟨_,_,_,b,?_⟩;have:(Instr.box e x).run P w = .ok (.pointer (Zz ⟨w.heap.size,0,none⟩)) (w.alloc (.cells x.cells e)):=by
    unfold Instr.box;simp[newVar,newRow]
   rw[this];exact wX h d _ _ (c.cells hc.2)
  .cases b
theorem eF(Z off j:Nat):(⟨Z,off,none⟩:Addr).add j=⟨Z,off+j,none⟩:=by unfold Addr.add;split<;>simp_all
theorem vL(f:fq P t=Zz i)(hl:vs.length=i.size\/(dv i.kind=Zv/\0<vs.length))(hc:∀ j v,vs[j]? = Zz v->w.cell? ⟨Z,off+j,none⟩=Zz v):
  (loadVar t ⟨Z,off,none⟩).run P w = .ok (if dv i.kind then .agg vs.toArray else vs.headD undef) w\/vs=[]:=by
 obtain⟨info,z,h,g,o,n,m,h6,l,b,k,_⟩:=bq f;cases a:dv i.kind with
 | true =>
  left;have d:vs.length=i.size:=by rcases hl with hl | hl;exact hl;rw[a] at hl;cases hl.1
  have c:=run_loadCells_list (P:=P) w ⟨Z,off,none⟩ vs (λj v e=>by rw[eF];exact hc j v e);rw[d,<-g] at c;simp[loadVar,qd b,a,run_sizeOf h,c]
 | false =>
  cases vs with
  | nil=>exact .inr rfl
  | cons v vs =>
   left;have:=hc 0 v rfl;simp[loadVar,qd b,a]
   grind
def uQ(w:World)(p:bF)(g:Nat->Value)(st:Nat->bI)(v:AV)(r:Result Value):Prop:=∃ v',r = .ok v' w/\bw w p g (used st) v' v
theorem uQ.same{v:AV}(b:r = .ok v' w)(a:bw w p g (used st) v' v):uQ w p g st v r:=⟨v',b,a⟩
theorem uQ.mL{v:AV}(h:ch B M w0 p0 w p g st)(c:uQ w p g st v r):Good B M w0 p0 w p g st v st r:=by
 obtain⟨v',b,a⟩:=c;exact Good.same h b a
theorem oJ(f:fq P t=Zz i)(h:ch B M w0 p0 w p g st){cs:List AV}(hcs:aT (cR w p g (used st)) vs cs)(hc:∀ j v,vs[j]? = Zz v->w.cell? ⟨Z,off+j,none⟩=Zz v){k:AV->Option α}{r:α}(b:loadCells i cs k=Zz r):
  ∃ v,k v=Zz r/\uQ w p g st v ((loadVar t ⟨Z,off,none⟩).run P w):=by
 unfold loadCells at b;cases l:Zh i.size cs.length with
 | false=>simp[l] at b
 | true =>
  simp only[l,Qa6] at b;have hle:i.size<=cs.length:=Zu l;split at b
  .rename_i e;refine⟨_,b,?_⟩;have a:=vL (P:=P) (w:=w) f (Z:=Z) (off:=off) (vs:=vs.take i.size) (.inl (by simp[hcs.len];omega)) (λj v d=>by
    rw[Zd] at d;split at d
    .exact hc j v d
    .cases d)
   have o:(loadVar t ⟨Z,off,none⟩).run P w = .ok (.agg (vs.take i.size).toArray) w:=by
    rcases a with a | a
    .rw[a,e];rfl
    .obtain⟨info,z,s,a2,a3,a4,a5,x,a7,a8,a9,_⟩:=bq f;have m:i.size=0:=by
      have:=Qb4 List.length a;rw[List.length_take,hcs.len,List.length_nil] at this;omega
     have n:=run_loadCells_list (P:=P) w ⟨Z,off,none⟩ [] (λj v d=>by simp at d);simp only[List.length_nil] at n;rw[m] at a2;simp[loadVar,qd a8,e,run_sizeOf s,a2,n,m]
   exact uQ.same o (.inr (.inl (.inr ⟨_,_,rfl,rfl,by simpa using hcs.take i.size⟩)))
  .rename_i e;cases cs with
   | nil=>simp at b
   | cons c cs =>
    obtain⟨v,u,rfl,q,_⟩:=hcs.ii;refine⟨_,b,?_⟩;have a:=vL (P:=P) (w:=w) f (Z:=Z) (off:=off) (vs:=v::u) (.inr ⟨e,by simp⟩) hc;rcases a with a | a
    .rw[e] at a;exact uQ.same a (cR.v q)
    .cases a
theorem IH{R:Value->AV->Prop}{els:List AV}{sz:Nat}(h:aT R vs (els.flatMap AV.cells))(d:∀ x∈els,x.cells.length=sz){j:Nat}{x:AV}(b:els[j]? = Zz x)(off:Nat):
  aT R ((vs.drop (j*sz+off)).take (sz-off)) (x.cells.drop off):=by
 have g:=d x (List.mem_of_getElem? b);have e:j<els.length:=(Zp.1 b).1;have hl:=h.len;rw[jL d] at hl;have f:(j+1)*sz<=els.length*sz:=Zm sz e;rw[Nat.add_mul] at f;refine⟨?_,λi v c a hc=> ?_⟩
 .grind
 .rw[Zd] at a;split at a
  .rw[List.getElem?_drop] at a hc;have:=vp d b hc;rw[Nat.add_assoc] at a;exact h.each _ v c a this
  .cases a
theorem vN(fv:∀ t i,E.ty t=Zz i->fq P t=Zz i)(K:fq P t=Zz i)(h:ch B M w0 p0 w p g fr.st){x:Value}(S:bw w p g (used fr.st) x a){r:α}(d:ld E fr i a k=Zz r):
  ∃ v Y,k v fr.st Y=Zz r/\uQ w p g fr.st v ((Instr.loadAt t x).run P w):=by
 unfold ld at d;split at d
 .rename_i b off;obtain⟨hu,Z,m,rfl⟩:=S.ptr;have C:=h.mc b;split at d
  .rename_i cs G;rw[G] at C;obtain⟨s,c,e,o,h2,X,W,h5⟩:=C;have:s=Z:=by rw[o] at m;cases m;rfl
   subst this;obtain⟨v,H,J⟩:=oJ (P:=P) K h (Z:=s) (off:=off) (W.drop off) (λj v F=>by
    rw[fo X];simpa using F) d
   exact⟨v,_,H,by simpa [Instr.loadAt,Instr.sureAddr] using J⟩
  .cases d
 .rename_i cs;have hr:=S.jX;cases hr with
  | jX vs hcell m7 =>
   rename_i Z off;obtain⟨v,H,J⟩:=oJ (P:=P) K h (Z:=Z) (off:=off) (vs:=(List.range cs.length).map vs) (cs:=cs) ⟨by simp,λj v c y hc=>by
     have F:j<cs.length:=(Zp.1 hc).1;simp[F] at y;subst y;exact .js (m7 j c hc)⟩ (λj v F=>by
     have E':j<cs.length:=by have:=(Zp.1 F).1;simpa using this
     simp[E'] at F;subst F;exact(hcell j _ (Zb E')).2) d
   exact⟨v,_,H,by simpa [Instr.loadAt,Instr.sureAddr] using J⟩
 .rename_i b off;obtain⟨hu,Z,j,b',m,rfl,hc⟩:=S.pQ;split at d
  .rename_i e fu;obtain⟨O,I⟩:=aC d;have afg:=Zw O;refine⟨_,_,I,?_⟩;have R:dv i.kind=Zv:=by rw[fu];rfl
   have o:=vL (P:=P) (w:=w) K (Z:=Z) (off:=j) (vs:=[.pointer (Zz ⟨b',off,none⟩)]) (.inr ⟨R,by simp⟩) (λq v f=>by
    cases q with
    | zero=>simp at f;subst f;simpa using hc
    | succ q=>simp at f)
   rcases o with o | o
   .rw[R] at o;exact uQ.same (by simpa [Instr.loadAt,Instr.sureAddr] using o) (cR.v (.ptr hu m))
   .cases o
  .cases d
 .rename_i b j sz off;obtain⟨hu,Z,m,rfl⟩:=S.jQ;have C:=h.mc b;have key:∀ (l:List UInt8) (c:Array Value) (e:TypeId) (n:Nat),w.heap[Z]? = Zz (.cells c e (0,0))->(c.toList.take n=l.map kU)->ax (Zq j l.length&&Zy off 0&&Zy sz 1 && !dv i.kind) (k (.u8 (l.getD j 0)) fr.st ⟨[b],[]⟩)=Zz r ->
    ∃ v Y,k v fr.st Y=Zz r/\uQ w p g fr.st v ((Instr.loadAt t (.pointer (Zz ⟨Z,j*sz+off,none⟩))).run P w):=by
   intro l c e n A hc I;obtain⟨D,Q⟩:=aC I;simp only[Zj,Bool.not_eq_true'] at D;obtain⟨⟨⟨F,ho⟩,hs⟩,R⟩:=D;have N:j<l.length:=Zu F;have NT:=Zw ho;have Y2:=Zw hs;subst NT;subst Y2;refine⟨_,_,Q,uQ.same (v':=kU (l.getD j 0)) ?_ (bZ.v .u8)⟩;have hcell:w.cell? ⟨Z,j,none⟩=Zz (kU (l.getD j 0)):=by
    rw[fo A];have o:(l.map kU)[j]? = Zz (kU (l.getD j 0)):=by simp[N]
    rw[<-hc,Zd] at o;split at o
    .simpa using o
    .cases o
   obtain⟨info,z,a1,a2,a3,a4,a5,a6,a7,a8,a9,_⟩:=bq K;simp[Instr.loadAt,Instr.sureAddr,loadVar,qd a8,R,hcell]
  split at d
  .rename_i e l iS G;rw[G] at C;obtain⟨⟨hlen,⟨hn,a,y⟩ | ⟨s,cap,U,y,h0,hB,A,tF,y_,hcs,L⟩⟩,_⟩:=C
   .rw[y] at m;cases a<;>simp[bR] at m
   .rw[y] at m;have:s=Z:=by simp[bR] at m;exact m.2
    subst this;exact key l U e _ A L d
  .rename_i l iS G;rw[G] at C;obtain⟨s,c,e,o,h2,X,W,h5⟩:=C;rw[o] at m;have:s=Z:=by simp[bR] at m;exact m
   subst this;exact key l c e c.size X (by rw[List.take_of_length_le (by simp)];exact W) d
  .rename_i e z l iS G;rw[G] at C;split at d
   .rename_i ei iR;obtain⟨D,I⟩:=aC d;simp only[Zj] at D;have N:j<l.length:=Zu D.1;have V:=Zw D.2;subst V;have Q:=kf I;obtain⟨tG,O,vs,⟨hlen,⟨hn,a,y⟩ | ⟨s,cap,U,y,h0,hB,A,tF,y_,hcs,L⟩⟩,dM,hp⟩:=C
    .omega
    .rw[y] at m;have:s=Z:=by simp[bR] at m;exact m.2
     subst this;have T:l[j]? = Zz (l.getD j .undef):=by simp[N]
     have V_:=IH (dM.imp λ_ _ A=>cR.js (g:=g) (u:=used fr.st) A) O T off;obtain⟨v,H,J⟩:=oJ (P:=P) K h (Z:=s) (off:=j*z+off) V_ (λq v f=>by
      rw[Zd] at f;split at f
      .rw[List.getElem?_drop,<-L,Zd] at f;split at f
       .rw[fo A];simpa using f
       .cases f
      .cases f) Q
     exact⟨v,_,H,by simpa [Instr.loadAt,Instr.sureAddr] using J⟩
   .cases d
  .rename_i e z l G;rw[G] at C;split at d
   .rename_i ei iR;obtain⟨D,I⟩:=aC d;simp only[Zj] at D;have N:j<l.length:=Zu D.1;have V:=Zw D.2;subst V;have Q:=kf I;obtain⟨s,cap,y,hB,tG,O,h0,tF,y_,hp,U,vs,A,hcs,hlen,L,dM⟩:=C
    .rw[y] at m;have:s=Z:=by simp[bR] at m;exact m.2
     subst this;have T:l[j]? = Zz (l.getD j .undef):=by simp[N]
     have V_:=IH (dM.imp λ_ _ A=>cR.js (g:=g) (u:=used fr.st) A) O T off;obtain⟨v,H,J⟩:=oJ (P:=P) K h (Z:=s) (off:=j*z+off) V_ (λq v f=>by
      rw[Zd] at f;split at f
      .rw[List.getElem?_drop,<-L,Zd] at f;split at f
       .rw[fo A];simpa using f
       .cases f
      .cases f) Q
     exact⟨v,_,H,by simpa [Instr.loadAt,Instr.sureAddr] using J⟩
   .cases d
  .cases d
 .cases d
theorem MS(l:∀ t i,E.ty t=Zz i->fq P t=Zz i)(e:fq P t=Zz i)(h:ch B M w0 p0 w p g fr.st){x:Value}(c:bw w p g (used fr.st) x a){r:α}(d:ld E fr i a k=Zz r):
  ∃ v b,k v fr.st b=Zz r/\Good B M w0 p0 w p g fr.st v fr.st ((Instr.loadAt t x).run P w):=by
 obtain⟨v,b,j,f⟩:=vN l e h c d;exact⟨v,b,j,f.mL h⟩
end
end Go.Abs
/- Operations on numbers, truth values and strings; stores. -/
namespace Go.Abs
section
variable {P:Program} {B:Nat} {M:Nat->Prop} {w0:World} {p0:bF} {w:World} {p:bF} {g:Nat->Value} {u:Nat->Prop}
variable {a:AV}{b:AV}{n:Int}{m:Int}{c:Bool}{t:TypeId}{op:BinOp}
theorem gV{α:Type}{x y:Value}(c:bw w p g u x a)(hy:bw w p g u y b){k:IntKind->Int->Int->Option α}{r:α}(h:iU a b k=Zz r):
  ∃ kd n m,x = .int kd n/\y = .int kd m/\k kd n m=Zz r/\(kd = .u8->(0<=n/\n<256)/\(0<=m/\m<256)):=by
 unfold iU at h;split at h
 .rename_i e n d m;obtain⟨rfl,i⟩:=c.int;obtain⟨rfl,f⟩:=hy.int
  grind
 .rename_i n m;have e1:=c.u8;have e2:=hy.u8;subst e1;subst e2;refine⟨.u8,n.toNat,m.toNat,rfl,rfl,h,λ_=> ?_⟩;have:=n.toNat_lt;have:=m.toNat_lt
  omega
 .cases h
theorem fJ(op:BinOp)(t:TypeId)(k:IntKind)(n m:Int)(b:op ≠ .shl)(a:op ≠ .shr) :
  binOp op t (.int k n) (.int k m)=(match op with
  | .add | .sub | .mul=>Op.intArith op k n m
  | .quo | .rem=>Op.intDiv op k n m
  | .and | .or | .xor | .andNot=>Op.intBits op k n m
  | _=>Op.intCmp op n m):=by
 cases op<;>first | exact absurd rfl b | exact absurd rfl a | simp[binOp]
theorem OT(a:0<=n/\n<256):0<=n.tmod m/\n.tmod m<256:=by
 have d:0<=n.tmod m:=Int.tmod_nonneg m a.1;have c:=Int.natAbs_tmod n m;have b:=Nat.mod_le n.natAbs m.natAbs;omega
theorem wu{y:Value}(hy:bw w p g u y b)(h:sZ b=Zz m):∃ k,y = .int k m:=by
 unfold sZ at h;split at h
 .cases h;exact⟨_,hy.int.1⟩
 .cases h;exact⟨_,hy.u8⟩
 .cases h
theorem jR{y:Value}(hy:bw w p g u y b)(h:idx b=Zz m):∃ k,y = .int k m:=by
 unfold idx at h;split at h
 .cases h;exact⟨_,hy.int.1⟩
 .cases h;exact⟨_,hy.u8⟩
 .cases h
theorem V1{j:Nat}(b:0<=n/\n<256):0<=n.fdiv (2 ^ j)/\n.fdiv (2 ^ j)<256:=by
 have a:(0:Int)<2 ^ j:=Int.pow_pos (by decide);rw[Int.fdiv_eq_ediv_of_nonneg _ (Int.le_of_lt a)];have d:=Int.ediv_nonneg b.1 (Int.le_of_lt a);have c:=Int.ediv_le_self (2 ^ j) b.1;omega
theorem tn{x y:Value}(d:bw w p g u x a)(hy:bw w p g u y b)(h:mS a b=Zz c):
  (∃ k n m,x = .int k n/\y = .int k m/\c=(n==m))\/(∃ s t,x = .bool s/\y = .bool t/\c=(s==t))\/(∃ s t:ByteArray,x = .string s/\y = .string t/\c=(s.data.toList==t.data.toList)):=by
 unfold mS at h;split at h
 .rename_i f n e m;obtain⟨rfl,_⟩:=d.int;obtain⟨rfl,_⟩:=hy.int
  grind
 .rename_i n m;have e1:=d.u8;have e2:=hy.u8;subst e1;subst e2;cases h;refine .inl ⟨_,_,_,rfl,rfl,?_⟩;rw[Bool.eq_iff_iff];simp;constructor
  .rintro rfl;rfl
  .intro h;exact UInt8.toNat.inj (by omega)
 .have e1:=d.bool;have e2:=hy.bool
  grind
 .obtain⟨s,rfl,j⟩:=d.str;obtain⟨t,rfl,i⟩:=hy.str
  grind
 .cases h
theorem Bl{x y:Value}(e:bw w p g u x a)(hy:bw w p g u y b)(h:mS a b=Zz c)(f:∀ s r,x = .bool s->y = .bool r->P.underlying t=Zz .bool):
  (binOp .eql t x y).run P w = .ok (.bool c) w/\(binOp .neq t x y).run P w = .ok (.bool !c) w:=by
 rcases tn e hy h with⟨k,n,m,rfl,rfl,rfl⟩ | ⟨s,r,rfl,rfl,rfl⟩ | ⟨s,r,rfl,rfl,rfl⟩
 .constructor<;>simp[binOp,Op.intCmp,bne]
 .have:=f s r rfl rfl;have he:∀ d,(Op.equalIn (d+1) t (.bool s) (.bool r)).run P w = .ok (s==r) w:=λd=>by simp[Op.equalIn,run_underlying this]
  constructor<;>(simp only[binOp];simp[Op.equal,Op.maxDepth,he 9999])
 .constructor<;>simp[binOp,Op.stringOp,Lib.toList_data]
theorem GV{x y:Operand}{v v':Value}(h:∀ c8,v ≠ .agg c8)(a:v ≠ .nilIface):(eqGuard op t x y v v').run P w = .ok () w:=by
 cases op<;>first | rfl | (cases v<;>first | rfl | exact absurd rfl (h _) | exact absurd rfl a)
theorem Kl{v:Value}(h:bw w p g u v a)(hc:a.d_=Zn):(∀ c8,v ≠ .agg c8)/\v ≠ .nilIface:=by
 rcases h with rfl | (h | ⟨c8,cs,rfl,rfl,h⟩) | ⟨c8,cs,rfl,rfl,h⟩
 .simp[AV.d_] at hc
 .cases h with
  | js h=>cases h<;>simp[kU]
  | ptr=>simp
  | jQ=>simp
  | row hu b=>obtain⟨a,l,c,e⟩:=b;rw[e];simp
  | mp=>simp
  | bL hu b=>obtain⟨a,l,c,e⟩:=b;rw[e];simp
  | bY=>simp
  | pQ=>simp
  | pre=>simp
  | Ei=>simp
  | A1=>simp
 .simp[AV.d_] at hc
 .simp[AV.d_] at hc
theorem Xl{x y:Value}{v:AV}(i:bw w p g u x a)(hy:bw w p g u y b)(h:nL op a b=Zz v)(q:a.d_=Zn)(o:∀ s r,x = .bool s->y = .bool r->P.underlying t=Zz .bool):∃ v',(binOp op t x y).run P w = .ok v' w/\bZ w p v' v:=by
 unfold nL at h;split at h
 .-- shl
  split at h
  .rename_i k n m hm;obtain⟨rfl,d⟩:=i.int;obtain⟨k',rfl⟩:=wu hy hm;cases f:Zx (0<=m) with
   | false=>simp[f,ax] at h
   | true =>
    simp[f,ax] at h;subst h;have:¬ m<0:=by simp at f;omega
    exact⟨_,by simp[binOp,Op.shift,this],.int d⟩
  .rename_i n m hm;have e:=i.u8;subst e;obtain⟨k',rfl⟩:=wu hy hm;cases f:Zx (0<=m) with
   | false=>simp[f,ax] at h
   | true =>
    simp[f,ax] at h;subst h;have:¬ m<0:=by simp at f;omega
    refine⟨_,?_,g7 λ_=>wrap_u8 _⟩;simp[kU,binOp,Op.shift,this,IntKind.bits]
  .cases h
 .-- shr
  split at h
  .rename_i k n m hm;obtain⟨rfl,d⟩:=i.int;obtain⟨k',rfl⟩:=wu hy hm;cases f:Zx (0<=m) with
   | false=>simp[f,ax] at h
   | true =>
    simp[f,ax] at h;subst h;have:¬ m<0:=by simp at f;omega
    exact⟨_,by simp[binOp,Op.shift,this],.int d⟩
  .rename_i n m hm;have e:=i.u8;subst e;obtain⟨k',rfl⟩:=wu hy hm;cases f:Zx (0<=m) with
   | false=>simp[f,ax] at h
   | true =>
    simp[f,ax] at h;subst h;have:¬ m<0:=by simp at f;omega
    have z:=n.toNat_lt;refine⟨_,?_,g7 λ_=>V1 ⟨by omega,by omega⟩⟩;simp[kU,binOp,Op.shift,this,IntKind.bits]
  .cases h
 .-- add
  split at h
  .rename_i s l;obtain⟨s,rfl,rfl⟩:=i.str;obtain⟨l,rfl,rfl⟩:=hy.str;cases f:Zx (s.data.toList.length+l.data.toList.length<=4611686018427387904) with
   | false=>rw[f] at h;cases h
   | true =>
    simp only[f,ax,Qa6,Option.some.injEq] at h;subst h;have hle:s.size+l.size<=4611686018427387904:=by simpa using Qa3 f
    have:¬ ((s.size+l.size:Nat):Int)>IntKind.i64.max:=by simp[IntKind.max,IntKind.signed,IntKind.bits];omega
    refine⟨.string (s++l),?_,.str (by simp)⟩;simp only[binOp,Op.stringOp,this,if_false];rfl
  .obtain⟨k,n,m,rfl,rfl,d,j⟩:=gV i hy h;cases d;exact⟨_,by rw[fJ _ _ _ _ _ (by simp) (by simp)];simp[Op.intArith],g7 λe=>by subst e;exact wrap_u8 _⟩
 .obtain⟨k,n,m,rfl,rfl,d,j⟩:=gV i hy h;cases d;exact⟨_,by rw[fJ _ _ _ _ _ (by simp) (by simp)];simp[Op.intArith],g7 λe=>by subst e;exact wrap_u8 _⟩
 .obtain⟨k,n,m,rfl,rfl,d,j⟩:=gV i hy h;cases d;exact⟨_,by rw[fJ _ _ _ _ _ (by simp) (by simp)];simp[Op.intArith],g7 λe=>by subst e;exact wrap_u8 _⟩
 .-- quo
  obtain⟨k,n,m,rfl,rfl,d,j⟩:=gV i hy h;cases f:(m==0) with
  | true=>simp[f,ax] at d
  | false =>
   simp[f,ax] at d;subst d;have:m≠0:=by simpa using f
   exact⟨_,by rw[fJ _ _ _ _ _ (by simp) (by simp)];simp[Op.intDiv,this],g7 λe=>by subst e;exact wrap_u8 _⟩
 .-- rem
  obtain⟨k,n,m,rfl,rfl,d,j⟩:=gV i hy h;cases f:(m==0) with
  | true=>simp[f,ax] at d
  | false =>
   simp[f,ax] at d;subst d;have:m≠0:=by simpa using f
   exact⟨_,by rw[fJ _ _ _ _ _ (by simp) (by simp)];simp[Op.intDiv,this],g7 λe=>by subst e;exact OT (j rfl).1⟩
 .obtain⟨k,n,m,rfl,rfl,d,j⟩:=gV i hy h;cases d;exact⟨_,by rw[fJ _ _ _ _ _ (by simp) (by simp)];rfl,g7 λe=>by subst e;exact wrap_u8 _⟩
 .obtain⟨k,n,m,rfl,rfl,d,j⟩:=gV i hy h;cases d;exact⟨_,by rw[fJ _ _ _ _ _ (by simp) (by simp)];rfl,g7 λe=>by subst e;exact wrap_u8 _⟩
 .obtain⟨k,n,m,rfl,rfl,d,j⟩:=gV i hy h;cases d;exact⟨_,by rw[fJ _ _ _ _ _ (by simp) (by simp)];rfl,g7 λe=>by subst e;exact wrap_u8 _⟩
 .-- lss
  split at h
  .obtain⟨s,rfl,rfl⟩:=i.str;obtain⟨l,rfl,rfl⟩:=hy.str;cases h;exact⟨_,by simp[binOp,Op.stringOp,Lib.toList_data],.bool⟩
  .obtain⟨k,n,m,rfl,rfl,d,j⟩:=gV i hy h;cases d;exact⟨_,by rw[fJ _ _ _ _ _ (by simp) (by simp)];rfl,.bool⟩
 .split at h
  .obtain⟨s,rfl,rfl⟩:=i.str;obtain⟨l,rfl,rfl⟩:=hy.str;cases h;exact⟨.bool _,by simp only[binOp,Op.stringOp,Lib.toList_data];rfl,.bool⟩
  .obtain⟨k,n,m,rfl,rfl,d,j⟩:=gV i hy h;cases d;exact⟨_,by rw[fJ _ _ _ _ _ (by simp) (by simp)];rfl,.bool⟩
 .-- gtr
  split at h
  .obtain⟨s,rfl,rfl⟩:=i.str;obtain⟨l,rfl,rfl⟩:=hy.str;cases h;exact⟨.bool _,by simp only[binOp,Op.stringOp,Lib.toList_data];rfl,.bool⟩
  .obtain⟨k,n,m,rfl,rfl,d,j⟩:=gV i hy h;cases d;exact⟨_,by rw[fJ _ _ _ _ _ (by simp) (by simp)];rfl,.bool⟩
 .split at h
  .obtain⟨s,rfl,rfl⟩:=i.str;obtain⟨l,rfl,rfl⟩:=hy.str;cases h;exact⟨.bool _,by simp only[binOp,Op.stringOp,Lib.toList_data];rfl,.bool⟩
  .obtain⟨k,n,m,rfl,rfl,d,j⟩:=gV i hy h;cases d;exact⟨_,by rw[fJ _ _ _ _ _ (by simp) (by simp)];rfl,.bool⟩
 .-- eql
  split at h
  .simp[AV.d_] at q
  .cases hc:mS a b with
   | none=>simp[hc] at h
   | some c =>
    simp[hc] at h;subst h;exact⟨_,(Bl i hy hc o).1,.bool⟩
 .split at h
  .simp[AV.d_] at q
  .cases hc:mS a b with
   | none=>simp[hc] at h
   | some c =>
    simp[hc] at h;subst h;exact⟨_,(Bl i hy hc o).2,.bool⟩
 .cases h
theorem acB{op:UnOp}{x:Value}{v:AV}(b:bw w p g u x a)(h:aaV op a=Zz v):∃ v',(Op.unary op x).run P w = .ok v' w/\bZ w p v' v:=by
 unfold aaV at h;split at h
 .have e:=b.bool;subst e;cases h;exact⟨_,rfl,.bool⟩
 .obtain⟨rfl,c⟩:=b.int;cases h;exact⟨_,by simp[Op.unary,Op.intArith],.int c⟩
 .cases h
end
end Go.Abs
/- Values that go out of a frame; stores. -/
namespace Go.Abs
section
variable {P:Program} {B:Nat} {M:Nat->Prop} {w0:World} {p0:bF} {w:World} {p:bF} {g:Nat->Value}
variable {st:Nat->bI}{α:Type}{k:AV->(Nat->bI)->FP->Option α}{o:Option Nat}{n:Nat}{Z:Nat}{e:Nat}{r:α}{i:TI}{us:List Value}{t:Nat}
theorem ch.relabel(h:ch B M w0 p0 w p g st){k:Nat}{b:bI}{p':bF}(c:(st k).live)(m:b.live)(l:∀ Z,bR (g k)≠Zz Z->p' Z=p Z)(hle:∀ Z,bR (g k)=Zz Z->p Z<=p' Z)(t:∀ Z,bR (g k)=Zz Z->Z<B->M Z/\p' Z=p Z)(r:cZ w p g (used st) w p' g (used (cQ st k b))->nJ w p' g (used (cQ st k b)) B M k b):
  ch B M w0 p0 w p' g (cQ st k b)/\cZ w p g (used st) w p' g (used (cQ st k b)):=by
 have u:b ≠ .free:=λe=>by rw[e] at m;exact m
 have hu:∀ j,used st j->used (cQ st k b) j:=λj a=>qR u a;have d:∀ Z,p Z<=p' Z:=λZ=>by
  grind
 refine h.change rfl rfl rfl (Zk _) (λj=>j=k) (λZ=>bR (g k)=Zz Z) (λj a=>bX _ _ a) hu (λ_ _=>rfl) (λZ _ hd=>⟨rfl,l Z hd⟩) (λZ hd s=>t Z hd s) d (λ_ _ _=>rfl) ?_ ?_ ?_ ?_
 .intro Z o;rw[l Z (λe=>by have:=(h.mc k).wC c e;omega)];exact h.nl Z o
 .intro j Z a hl q hd;exact h.uB j k Z a hl c q hd
 .rintro j rfl;rw[aM];exact r ⟨d,λ_ _ _=>rfl,λ_ _=>rfl,hu⟩
 .rintro j j' Z rfl i _ f v n;rw[bX _ _ i] at f;exact h.uB j j' Z (Ne.symm i) c f v n
def raise(p:bF)(o:Option Nat)(n:Nat):bF:=λZ=>if o=Zz Z then n else p Z
theorem gC{p:bF}(h:o=Zz Z):raise p o n Z=n:=by simp[raise,h]
theorem nv{p:bF}(h:o≠Zz Z):raise p o n Z=p Z:=by simp[raise,h]
theorem Ts(h:ch B M w0 p0 w p g st){k:Nat}{l:List UInt8}{iS:Bool}(j:st k = .fm e l iS):
  ∃ p',ch B M w0 p0 w p' g (cQ st k (.fm e l Zn))/\cZ w p g (used st) w p' g (used (cQ st k (.fm e l Zn)))/\bZ w p' (g k) (.bs l):=by
 have m:=h.mc k;rw[j] at m;obtain⟨bL,t⟩:=m;have n:∀ Z,bR (g k)=Zz Z->B<=Z:=λZ c=>by
  obtain⟨_,⟨_,a,d⟩ | ⟨o,cap,r,d,y,n,_⟩⟩:=bL
  .rw[d] at c;cases a<;>simp[bR] at c
  .rw[d] at c;have:o=Z:=by simp[bR] at c;exact c.2
   omega
 obtain⟨s,hm⟩:=h.relabel (k:=k) (b := .fm e l Zn) (p':=raise p (bR (g k)) l.length) (by rw[j];trivial) trivial (λZ c=>nv c)
  (λZ c=>by rw[gC c];exact(t Z c).1) (λZ c D=>by have:=n Z c;omega)
  (λhm=>⟨bL,λZ c=>⟨by rw[gC c];exact Zk _,λe=>by cases e⟩⟩)
 refine⟨_,s,hm,?_⟩;obtain⟨hlen,⟨u,a,d⟩ | ⟨Z,cap,r,d,y,x,v,q,z,hcs,C⟩⟩:=bL
 .have:l=[]:=Yz u;subst this;rw[d];exact .bs 0 0 rfl (Zk _) (.inl rfl) (λi b f=>by simp at f)
 .rw[d];refine .bs Z 0 rfl q (.inr rfl) λi b f=>⟨?_,?_⟩
  .rw[gC (by simp[bR];omega)]
   grind
  .rw[fo v];have A:(l.map kU)[i]? = Zz (kU b):=by simp[f]
   grind
theorem Tu(h:ch B M w0 p0 w p g st){k z:Nat}{l:List AV}{iS:Bool}(r:st k = .cF e z l iS):
  ∃ p',ch B M w0 p0 w p' g (cQ st k (.cF e z l Zn))/\cZ w p g (used st) w p' g (used (cQ st k (.cF e z l Zn)))/\bZ w p' (g k) (.sl z l):=by
 have s:=h.mc k;rw[r] at s;obtain⟨C,o,vs,bL,u,F⟩:=s;have t:∀ Z,bR (g k)=Zz Z->B<=Z:=λZ d=>by
  obtain⟨_,⟨_,a,f⟩ | ⟨x,cap,A,f,J,t,_⟩⟩:=bL
  .rw[f] at d;cases a<;>simp[bR] at d
  .rw[f] at d;have:x=Z:=by simp[bR] at d;exact d.2
   omega
 obtain⟨D,hm⟩:=h.relabel (k:=k) (b := .cF e z l Zn) (p':=raise p (bR (g k)) (l.length*z)) (by rw[r];trivial) trivial (λZ d=>nv d)
  (λZ d=>by rw[gC d];exact(F Z d).1) (λZ d P=>by have:=t Z d;omega)
  (λhm=>⟨C,o,vs,bL,u.imp λ_ _=>hm.wM,λZ d=>⟨by rw[gC d];exact Zk _,λe=>by cases e⟩⟩)
 refine⟨_,D,hm,?_⟩;have N:=jL o;obtain⟨hlen,⟨G,a,f⟩ | ⟨Z,cap,A,f,J,I,H,y,L,hcs,O⟩⟩:=bL
 .have:l=[]:=Yz G;subst this;rw[f];exact .sl 0 0 (λ_=>undef) rfl (Zk _) (λ_ h=>by cases h) (.inl rfl) (λi b n=>by simp at n) (λi b n=>by simp at n)
 .have q:=u.imp λv c K=>hm.wM K;rw[f] at q ⊢;refine .sl Z 0 (λj=>vs.getD j undef) rfl y o (.inr rfl) (λj c m=>⟨?_,?_⟩) (λj c m=> ?_)
  .rw[gC (by simp[bR];omega)]
   grind
  .obtain⟨v,d,_⟩:=q.get m;rw[fo H]
   grind
  .obtain⟨v,d,E⟩:=q.get m;simp[d];exact E
def kR(w:World)(p:bF)(v:Value)(a:AV):Prop:=bZ w p v a\/∃ c8 cs,v = .agg c8/\a = .agg cs/\aT (bZ w p) c8.toList cs
theorem kR.v{u:Nat->Prop}{v:Value}{a:AV}(h:kR w p v a):bw w p g u v a:=by
 rcases h with h | ⟨c8,cs,rfl,rfl,h⟩
 .exact h.v
 .exact .inr (.inl (.inr ⟨c8,cs,rfl,rfl,h.imp λ_ _ => .js⟩))
theorem kR.mono{w':World}{p':bF}(b:∀ Z,p Z<=p' Z)(hc:∀ Z i,i<p Z->w'.cell? ⟨Z,i,none⟩=w.cell? ⟨Z,i,none⟩){v:Value}{a:AV}(h:kR w p v a):kR w' p' v a:=by
 rcases h with h | ⟨c8,cs,rfl,rfl,h⟩
 .exact .inl (h.mono b hc)
 .exact .inr ⟨c8,cs,rfl,rfl,h.imp λ_ _ c=>c.mono b hc⟩
theorem kR.cells{v:Value}{a:AV}(h:kR w p v a):aT (bZ w p) v.cells.toList a.cells:=by
 rcases h with h | ⟨c8,cs,rfl,rfl,h⟩
 .rw[h.u3.1,h.u3.2.2.1];exact .cons h .nil
 .exact h
def kX(st st':Nat->bI):Prop:=(∀ b cs,st b = .cells cs->st' b = .cells cs)/\∀ b e z l,st b = .jp e z l->st' b = .jp e z l
theorem kX.refl:kX st st:=⟨λ_ _ h=>h,λ_ _ _ _ h=>h⟩
theorem kX.trans{a b c:Nat->bI}(h:kX a b)(k:kX b c):kX a c:=⟨λx cs d=>k.1 x cs (h.1 x cs d),λx e z l d=>k.2 x e z l (h.2 x e z l d)⟩
theorem kX.cQ{st:Nat->bI}{r:Nat}{x:bI}(h:∀ cs,st r ≠ .cells cs)(c:∀ e z l,st r ≠ .jp e z l):kX st (Abs.cQ st r x) :=
 ⟨λb cs a=>by rw[bX _ _ (λe=>by subst e;exact h cs a)];exact a,λb e z l a=>by rw[bX _ _ (λq=>by subst q;exact c e z l a)];exact a⟩
theorem wv(h:ch B M w0 p0 w p g st){c:CT}{x:Value}{v:AV}(f:bw w p g (used st) x v)(d:Dm c v st k=Zz r):
  ∃ a st' u p',k a st' u=Zz r/\ch B M w0 p0 w p' g st'/\cZ w p g (used st) w p' g (used st')/\bZ w p' x a/\kX st st':=by
 unfold Dm at d;split at d
 .obtain⟨a,rfl⟩:=f.bJ;exact⟨_,_,_,p,d,h,cZ.refl,.bs 0 0 rfl (Zk _) (.inl rfl) (λi b n=>by simp at n),kX.refl⟩
 .obtain⟨a,rfl⟩:=f.bJ;exact⟨_,_,_,p,d,h,cZ.refl,.sl 0 0 (λ_=>undef) rfl (Zk _) (λ_ h=>by cases h) (.inl rfl) (λi b n=>by simp at n) (λi b n=>by simp at n),kX.refl⟩
 .rename_i y;obtain⟨hu,rfl,_⟩:=f.row;split at d
  .rename_i e l iS j;obtain⟨p',m,hm,o⟩:=Ts h j;exact⟨_,_,_,p',d,m,hm,o,kX.cQ (λcs e=>by rw[j] at e;cases e) (λe z l q=>by rw[j] at q;cases q)⟩
  .rename_i e z l iS j;obtain⟨p',m,hm,o⟩:=Tu h j;exact⟨_,_,_,p',d,m,hm,o,kX.cQ (λcs e=>by rw[j] at e;cases e) (λe z l q=>by rw[j] at q;cases q)⟩
  .cases d
 .obtain⟨rfl,t⟩:=f.int;exact⟨_,_,_,p,d,h,cZ.refl,.int t,kX.refl⟩
 .have e:=f.u8;subst e;exact⟨_,_,_,p,d,h,cZ.refl,.u8,kX.refl⟩
 .have e:=f.bool;subst e;exact⟨_,_,_,p,d,h,cZ.refl,.bool,kX.refl⟩
 .obtain⟨s,rfl,m⟩:=f.str;exact⟨_,_,_,p,d,h,cZ.refl,.str m,kX.refl⟩
 .exact⟨_,_,_,p,d,h,cZ.refl,f.bs,kX.refl⟩
 .exact⟨_,_,_,p,d,h,cZ.refl,f.sl,kX.refl⟩
 .have:bZ w p x .mr:=by
   rcases f with f | (f | ⟨c8,cs,_,f,_⟩) | ⟨c8,cs,_,f,_⟩<;>first | cases f
   assumption
  exact⟨_,_,_,p,d,h,cZ.refl,this,kX.refl⟩
 .exact⟨_,_,_,p,d,h,cZ.refl,f.jX,kX.refl⟩
 .cases d
theorem DM(h:ch B M w0 p0 w p g st){c:CT}{x:Value}{v:AV}(d:bw w p g (used st) x v)(e:Dm c v st k=Zz r):
  ∃ a st' b p',k a st' b=Zz r/\ch B M w0 p0 w p' g st'/\cZ w p g (used st) w p' g (used st')/\bZ w p' x a:=by
 obtain⟨a,st',b,p',l,j,i,f,_⟩:=wv h d e
 grind
theorem qN{α:Type}:∀ {n:List CT} {vs:List AV} {xs:List Value} {st:Nat->bI} {p:bF},ch B M w0 p0 w p g st->aT (cR w p g (used st)) xs vs->∀ {k:List AV->(Nat->bI)->FP->Option α} {r:α},
  nQ n vs st k=Zz r->∃ as st' t p',k as st' t=Zz r/\ch B M w0 p0 w p' g st'/\cZ w p g (used st) w p' g (used st')/\aT (bZ w p') xs as/\kX st st'
 | [],[],xs,st,p,h,d,k,r,b=>by
  simp only[nQ] at b;have:=d.jw;subst this;exact⟨_,_,_,p,b,h,cZ.refl,.nil,kX.refl⟩
 | c::cs,v::vs,xs,st,p,h,d,k,r,b=>by
  simp only[nQ] at b;obtain⟨x,F,rfl,q,o⟩:=d.ii;obtain⟨a,D,f1,C,u,m,e,i,A⟩:=wv h q.v b;obtain⟨as,E,f2,l,y,s,f,j,z⟩:=qN m (o.imp λ_ _=>e.EJ) u;exact⟨_,_,_,l,y,s,e.trans f,.cons (f.wM i) j,A.trans z⟩
 | [],_::_,_,_,_,_,_,_,_,b=>by simp[nQ] at b
 | _::_,[],_,_,_,_,_,_,_,b=>by simp[nQ] at b
theorem zO(h:ch B M w0 p0 w p g st){x:Value}{v:AV}(l:bw w p g (used st) x v)(b:out i v st k=Zz r):
  ∃ a st' j p',k a st' j=Zz r/\ch B M w0 p0 w p' g st'/\cZ w p g (used st) w p' g (used st')/\kR w p' x a/\kX st st':=by
 unfold out at b;split at b
 .obtain⟨c8,rfl,hc⟩:=l.agg;obtain⟨as,st',j,p',c,d,hm,e,f⟩:=qN h hc b;exact⟨_,_,_,p',c,d,hm,.inr ⟨c8,as,rfl,rfl,e⟩,f⟩
 .split at b
  .obtain⟨a,st',j,p',c,d,hm,e,f⟩:=wv h l b;exact⟨_,_,_,p',c,d,hm,.inl e,f⟩
  .cases b
 .cases b
theorem B4(h:ch B M w0 p0 w p g st){x:Value}{v:AV}(c:bw w p g (used st) x v)(d:out i v st k=Zz r):
  ∃ a st' b p',k a st' b=Zz r/\ch B M w0 p0 w p' g st'/\cZ w p g (used st) w p' g (used st')/\kR w p' x a:=by
 obtain⟨a,st',b,p',l,j,f,e,_⟩:=zO h c d
 grind
def Il(B:Nat)(M:Nat->Prop)(w0:World)(p0:bF)(w:World)(p:bF)(g:Nat->Value)(st:Nat->bI)(st':Nat->bI)(r:Result Unit):Prop :=
 ∃ w' p' g',r = .ok () w'/\ch B M w0 p0 w' p' g' st'/\cZ w p g (used st) w' p' g' (used st')
theorem Qw{Z:Type}(c:List Z)(j:Nat)(x:Z)(h:j<c.length):c.take j++[x]++c.drop (j+1)=c.set j x:=by
 rw[List.set_eq_take_append_cons_drop,Qa1 h];simp
theorem q_{R:Value->AV->Prop}{vs:List Value}{cs ds:List AV}(h:aT R vs cs)(k:aT R us ds)(off:Nat):
  aT R (vs.take off++us++vs.drop (off+us.length)) (place cs off ds):=by
 unfold place;rw[k.len];exact((h.take off).append k).append (h.drop _)
theorem pU(b:fq P t=Zz i){off:Nat}{c:Array Value}{e:TypeId}(d:w.heap[Z]? = Zz (.cells c e (0,0))){v:Value}(hl:v.cells.size=i.size)(h:off+i.size<=c.size)(f:∀ x∈v.cells.toList,x.oneCell'=Zn):
  (storeVar t ⟨Z,off,none⟩ v).run P w = .ok () (w.setRow Z (c.toList.take off++v.cells.toList++c.toList.drop (off+v.cells.toList.length)).toArray):=by
 obtain⟨info,z,g,a2,a3,a4,a5,j,a7,a8,a9,_⟩:=bq b;have a:=run_storeCells_at (P:=P) Z off e v.cells.toList 0 c w d (by simp;omega) f;simp only[Nat.add_zero] at a;simp[storeVar,run_sizeOf g,a2,hl,a]
theorem Mv(a b:List AV)(off:Nat)(n:List AV)(h:off+n.length<=a.length):place (a++b) off n=place a off n++b:=by grind [place]
theorem Kf(a b:List AV)(q:Nat)(n:List AV):place (a++b) (a.length+q) n=a++place b q n:=by
 unfold place;rw[List.take_append,List.drop_append,List.take_of_length_le (by omega),List.drop_of_length_le (by omega)]
 grind
theorem CC{sz off:Nat}{news:List AV}:∀ {els:List AV} {j:Nat} {x a:AV},els[j]? = Zz x->(∀ y∈els,y.cells.length=sz)->a.cells=place x.cells off news->off+news.length<=sz ->
  (els.set j a).flatMap AV.cells=place (els.flatMap AV.cells) (j*sz+off) news
 | [],j,x,a,h,_,_,_=>by simp at h
 | y::r,0,x,a,h,hs,b,c=>by
  simp at h;subst h;have hy:=hs y (by simp);rw[List.set_cons_zero,Zg,Zg,b,Nat.zero_mul,Nat.zero_add,Mv _ _ _ _ (by omega)]
 | y::r,j+1,x,a,h,hs,b,c=>by
  simp at h;have hy:=hs y (by simp);have ih:=CC h (λz d=>hs z (by simp[d])) b c;rw[List.set_cons_succ,Zg,Zg,ih];rw[show(j+1)*sz+off=y.cells.length+(j*sz+off) by rw[hy,Nat.add_mul];omega,Kf]
theorem zE(cs:List AV)(off:Nat)(n:List AV)(h:off+n.length<=cs.length):(place cs off n).length=cs.length:=by
 unfold place;simp;omega
theorem zU{c:List Value}{q:Nat}(h:q+us.length<=n)(a:n<=c.length):(c.take q++us++c.drop (q+us.length)).take n=(c.take n).take q++us++(c.take n).drop (q+us.length):=by
 apply List.ext_getElem?
 grind
theorem Kx{E:Env}(fv:∀ t i,E.ty t=Zz i->fq P t=Zz i){fr:Fr}(S:fq P t=Zz i)(h:ch B M w0 p0 w p g fr.st){x y:Value}{a b:AV}(hx:bw w p g (used fr.st) x a)(hy:bw w p g (used fr.st) y b){k:lM α}(s:oD E fr i a b k=Zz r):∃ st' fp,k .undef st' fp=Zz r/\Il B M w0 p0 w p g fr.st st' ((Instr.storeAt t x y).run P w):=by
 unfold oD at s;simp only[nX] at s;split at s
 .rename_i A off;obtain⟨hu,Z,m,rfl⟩:=hx.ptr;have hb:=h.mc A;split at s
  .rename_i cs O;rw[O] at hb;obtain⟨d,c,e,h1,T,h3,h4,h5⟩:=hb;have:d=Z:=by rw[h1] at m;cases m;rfl
   subst this;obtain⟨u,J⟩:=cW s;simp only[Zj,Qb0] at u;obtain⟨⟨hlen,xK⟩,hcell⟩:=u;have D:off+i.size<=cs.length:=Zu xK;have Zr:=hy.cells hcell;rw[wq _ _ _ (by rw[hlen];exact D)] at J;refine⟨_,_,J,?_⟩;have H:y.cells.size=i.size:=by have:=Zr.len;simp at this;omega
   have aqZ:c.size=cs.length:=by have:=h4.len;simpa using this
   have N:=pU (P:=P) (w:=w) S h3 (v:=y) (off:=off) H (by omega) Zr.one;obtain⟨hs,hm⟩:=h.modify (k:=A) (b := .cells (place cs off b.cells)) (w':=w.setRow d (c.toList.take off++y.cells.toList++c.toList.drop (off+y.cells.toList.length)).toArray) (p':=p) (β₀:=d) (by rw[O];trivial) trivial (by rw[h1];rfl)
    rfl rfl rfl (by simp) (λZ X=>⟨setRow_other w d Z _ X,rfl⟩) (λfR=>⟨by rcases T with T | T;exact T;omega,rfl⟩) (Zk _) (λi S=>by rw[h5] at S;omega)
    (λhm=>⟨d,_,e,h1,T,setRow_heap w d c _ e _ h3,by
     have:=q_ h4 Zr off;simpa using this.imp λ_ _=>hm.EJ,h5⟩)
   exact⟨_,p,g,by simpa [Instr.storeAt,Instr.sureAddr] using N,hs,hm⟩
  .cases s
 .rename_i A j sz off;obtain⟨hu,Z,m,rfl⟩:=hx.jQ;have hb:=h.mc A;have key:∀ (l:List UInt8) (c:Array Value) (e:TypeId) (n:Nat) (iS:Bool) (mk:List UInt8->bI),w.heap[Z]? = Zz (.cells c e (0,0))->c.toList.take n=l.map kU->(iS=Zv->p Z=0)->B<=Z->(fr.st A).live->(∀ l,(mk l).live) ->
    (∀ (C:UInt8),j<l.length->iS=Zv->∀ (w':World),w'.heap[Z]? = Zz (.cells (c.toList.set j (kU C)).toArray e (0,0))->∀ u',nJ w' p g u' B M A (mk (l.set j C))) ->
    (b.qW λx=>ax (Zq j l.length&&Zy off 0&&Zy sz 1&&Zy i.size 1 && !iS) (k .undef (cQ fr.st A (mk (l.set j x))) ⟨[A],[A]⟩))=Zz r ->
    ∃ st' fp,k .undef st' fp=Zz r/\Il B M w0 p0 w p g fr.st st' ((Instr.storeAt t (.pointer (Zz ⟨Z,j*sz+off,none⟩)) y).run P w):=by
   intro l c e n iS mk L U Y V4 A8 abo ajI J;unfold AV.qW at J;split at J
   .rename_i _ C;have hyv:=hy.u8;subst hyv;obtain⟨u,I⟩:=aC J;simp only[Zj,Bool.not_eq_true'] at u;obtain⟨⟨⟨⟨hj,ho⟩,hs⟩,W⟩,G9⟩:=u;have fR:j<l.length:=Zu hj;have H:i.size=1:=Zw W;have NT:=Zw ho;have Y2:=Zw hs;subst NT;subst Y2;subst G9;have hjc:j<c.size:=by
     have:=Qb4 List.length U;simp at this;omega
    have N:=pU (P:=P) (w:=w) S L (v:=kU C) (off:=j) (by simp[kU,Value.cells,H]) (by omega) (λx hx=>by simp[kU,Value.cells] at hx;subst hx;rfl);refine⟨_,_,I,?_⟩;have dM:(kU C).cells.toList=[kU C]:=rfl;rw[dM] at N;simp only[List.length_singleton] at N;rw[Qw _ _ _ (by simpa using hjc)] at N;obtain⟨hs,hm⟩:=h.modify (k:=A) (b:=mk (l.set j C)) (w':=w.setRow Z (c.toList.set j (kU C)).toArray) (p':=p) (β₀:=Z) A8 (abo _) m
     rfl rfl rfl (by simp) (λd X=>⟨setRow_other w Z d _ X,rfl⟩) (λfR=>by omega) (Zk _) (λi S=>by rw[Y rfl] at S;omega)
     (λhm=>ajI C fR rfl _ (setRow_heap w Z c _ e _ L) _)
    exact⟨_,p,g,by simpa [Instr.storeAt,Instr.sureAddr] using N,hs,hm⟩
   .cases J
  split at s
  .rename_i e l iS O;rw[O] at hb;obtain⟨⟨hlen,⟨hn,a,F⟩ | ⟨d,cap,R,F,h0,hB,L,V,y_,hcs,U⟩⟩,Y⟩:=hb
   .rw[F] at m;cases a<;>simp[bR] at m
   .have Se:d=Z:=by rw[F] at m;simp[bR] at m;exact m.2
    subst Se;refine key l R e _ iS (λl => .fm e l Zv) L U ((Y d m).2) hB (by rw[O];trivial) (λ_=>trivial) ?_ s;intro C fR G9 w' SF u';refine⟨⟨by simp,.inr ⟨d,cap,_,F.trans (by simp),h0,hB,SF,by simpa using V,y_,?_,?_⟩⟩,λZ nP=> ?_⟩
    .simpa using hcs
    .simp only[List.length_set];rw[List.take_set,U,List.map_set]
    .rw[m] at nP;cases nP;exact⟨by rw[(Y d m).2 G9];exact Nat.zero_le _,λ_=>(Y d m).2 G9⟩
  .rename_i l iS O;rw[O] at hb;obtain⟨d,c,e,h1,T,h3,h4,h5,h6⟩:=hb;have Se:d=Z:=by rw[h1] at m;simp[bR] at m;exact m
   subst Se;refine key l c e c.size iS (λl => .jG l Zv) h3 (by rw[List.take_of_length_le (by simp)];exact h4) h6 T (by rw[O];trivial) (λ_=>trivial) ?_ s;intro C fR G9 w' SF u';refine⟨d,_,e,h1,T,SF,?_,by rw[h6 G9];exact Nat.zero_le _,λ_=>h6 G9⟩;show c.toList.set j (kU C)=_;rw[h4,List.map_set]
  .rename_i e z l iS O;split at s
   .rename_i ei iR;obtain⟨u,J⟩:=aC s;simp only[Zj,Bool.not_eq_true'] at u;obtain⟨⟨YC,hz⟩,apo⟩:=u;have SI:=Zw hz;subst SI;obtain⟨v',cJ,f1,p1,I,W,mf,s9⟩:=B4 h hy J;have wc:=W.mc A;split at I
    .rename_i e1 f o Ev;have n7:=kf I;obtain⟨u,A7⟩:=cW n7;simp only[Zj,Qb0] at u;obtain⟨⟨⟨⟨Sr,xK⟩,j7⟩,PE⟩,HM⟩:=u;have abJ:=Zw PE;subst abJ;have D:=Zu xK;have A_:0<i.size:=Zu j7;have Py:j<o.length:=Zu HM;rw[Ev] at wc;obtain⟨tG,H,vs,bL,dM,Y⟩:=wc;obtain⟨hlen,⟨hn,a,F⟩ | ⟨d,cap,R,F,h0,hB,L,V,y_,hcs,U⟩⟩:=bL
     .omega
     .have Se:d=Z:=by rw[F] at m;simp[bR] at m;exact m.2
      subst Se;have vt:o[j]? = Zz (o.getD j .undef):=by simp[Py]
      have hold:(o.getD j .undef).cells.length=f:=H _ (List.mem_of_getElem? vt);have K:=s9.cells;have Vl:y.cells.toList.length=i.size:=by rw[K.len,Sr]
      have Jz:y.cells.size=i.size:=by simpa using Vl
      have Wo:=(Y d m).2 rfl;have CJ:(j+1)*f<=o.length*f:=Zm f Py;rw[Nat.add_mul] at CJ;have ajP:o.length*f<=cap*f:=Zm f V;have N:=pU (P:=P) (w:=w) S L (v:=y) (off:=j*f+off) Jz (by rw[hcs];omega) K.ab8;obtain⟨info,z,a1,a2,a3,a4,a5,a6,a7,a8,a9,_⟩:=bq (fv _ _ iR);have SG:(uo ei (o.getD j .undef) off v'.cells).cells=place (o.getD j .undef).cells off v'.cells:=by
       unfold uo;split
       .rfl
       .rename_i uD;have Q:=FA I uD;have Vo:f=1:=by rw[<-hold,Q];rfl
        have CK:v'.cells.length=1:=by rw[Q] at D;simp at D;omega
        have YX:off=0:=by rw[Q] at D;simp at D;omega
        obtain⟨c,Er⟩:=List.length_eq_one_iff.1 CK;rw[Er] at K ⊢;obtain⟨cv,_,_,Si,_⟩:=K.ii;rw[Q,YX];simp[place,Si.u3.2.2.1]
      refine⟨_,_,A7,?_⟩;obtain⟨gP,m6⟩:=W.modify (k:=A) (b := .cF e1 f (o.set j (uo ei (o.getD j .undef) off v'.cells)) Zv) (w':=w.setRow d (R.toList.take (j*f+off)++y.cells.toList++R.toList.drop (j*f+off+y.cells.toList.length)).toArray) (p':=p1) (β₀:=d)
       (by rw[Ev];trivial) trivial m rfl rfl rfl (by simp) (λZ X=>⟨setRow_other w d Z _ X,rfl⟩) (λfR=>by omega) (Zk _) (λq G=>by rw[Wo] at G;omega)
       (λhm=>by
        refine⟨tG,λq G=> ?_,vs.take (j*f+off)++y.cells.toList++vs.drop (j*f+off+y.cells.toList.length),⟨?_,.inr ⟨d,cap,_,F.trans (by simp),h0,hB,setRow_heap w d R _ e1 _ L,by simpa using V,y_,?_,?_⟩⟩,?_,λZ nP=> ?_⟩
        .rcases List.mem_or_eq_of_mem_set G with G | rfl
         .exact H q G
         .rw[SG,zE _ _ _ (by rw[Sr];omega),hold]
        .simp;omega
        .simp;omega
        .simp only[List.length_set];rw[zU (by omega) (by simp;omega),U]
        .rw[CC vt H SG (by rw[Sr,<-hold];omega)];have:=q_ dM (K) (j*f+off);exact this.imp λ_ _=>hm.wM
        .rw[m] at nP;cases nP;exact⟨by rw[Wo];exact Nat.zero_le _,λ_=>Wo⟩)
      exact⟨_,p1,g,by simpa [Instr.storeAt,Instr.sureAddr] using N,gP,mf.trans m6⟩
    .cases I
   .cases s
  .rename_i e z l O;split at s
   .rename_i ei iR;obtain⟨u,J⟩:=aC s;simp only[Zj] at u;obtain⟨YC,hz⟩:=u;have SI:=Zw hz;subst SI;obtain⟨v',cJ,f1,p1,I,W,mf,s9⟩:=B4 h hy J;have wc:=W.mc A;split at I
    .rename_i e1 f o Ev;have n7:=kf I;obtain⟨u,A7⟩:=cW n7;simp only[Zj,Qb0] at u;obtain⟨⟨⟨⟨Sr,xK⟩,j7⟩,PE⟩,HM⟩:=u;have abJ:=Zw PE;subst abJ;have D:=Zu xK;have A_:0<i.size:=Zu j7;have Py:j<o.length:=Zu HM;rw[Ev] at wc;obtain⟨d,cap,F,hB,tG,H,h0,V,y_,Wo,R,vs,L,hcs,hlen,U,dM⟩:=wc
     .have Se:d=Z:=by rw[F] at m;simp[bR] at m;exact m.2
      subst Se;have vt:o[j]? = Zz (o.getD j .undef):=by simp[Py]
      have hold:(o.getD j .undef).cells.length=f:=H _ (List.mem_of_getElem? vt);have K:=s9.cells;have Vl:y.cells.toList.length=i.size:=by rw[K.len,Sr]
      have Jz:y.cells.size=i.size:=by simpa using Vl
      have CJ:(j+1)*f<=o.length*f:=Zm f Py;rw[Nat.add_mul] at CJ;have ajP:o.length*f<=cap*f:=Zm f V;have N:=pU (P:=P) (w:=w) S L (v:=y) (off:=j*f+off) Jz (by rw[hcs];omega) K.ab8;obtain⟨info,z,a1,a2,a3,a4,a5,a6,a7,a8,a9,_⟩:=bq (fv _ _ iR);have SG:(uo ei (o.getD j .undef) off v'.cells).cells=place (o.getD j .undef).cells off v'.cells:=by
       unfold uo;split
       .rfl
       .rename_i uD;have Q:=FA I uD;have Vo:f=1:=by rw[<-hold,Q];rfl
        have CK:v'.cells.length=1:=by rw[Q] at D;simp at D;omega
        have YX:off=0:=by rw[Q] at D;simp at D;omega
        obtain⟨c,Er⟩:=List.length_eq_one_iff.1 CK;rw[Er] at K ⊢;obtain⟨cv,_,_,Si,_⟩:=K.ii;rw[Q,YX];simp[place,Si.u3.2.2.1]
      refine⟨_,_,A7,?_⟩;obtain⟨gP,m6⟩:=W.modify (k:=A) (b := .jp e1 f (o.set j (uo ei (o.getD j .undef) off v'.cells))) (w':=w.setRow d (R.toList.take (j*f+off)++y.cells.toList++R.toList.drop (j*f+off+y.cells.toList.length)).toArray) (p':=p1) (β₀:=d)
       (by rw[Ev];trivial) trivial m rfl rfl rfl (by simp) (λZ X=>⟨setRow_other w d Z _ X,rfl⟩) (λfR=>⟨hB.resolve_right (by omega),rfl⟩) (Zk _) (λq G=>by rw[Wo] at G;omega)
       (λhm=>by
        refine⟨d,cap,F.trans (by simp),hB,tG,λq G=> ?_,h0,by simpa using V,y_,Wo,_,vs.take (j*f+off)++y.cells.toList++vs.drop (j*f+off+y.cells.toList.length),setRow_heap w d R _ e1 _ L,?_,?_,?_,?_⟩
        .rcases List.mem_or_eq_of_mem_set G with G | rfl
         .exact H q G
         .rw[SG,zE _ _ _ (by rw[Sr];omega),hold]
        .simp;omega
        .simp;omega
        .simp only[List.length_set];rw[zU (by omega) (by simp;omega),U]
        .rw[CC vt H SG (by rw[Sr,<-hold];omega)];have:=q_ dM (K) (j*f+off);exact this.imp λ_ _=>hm.wM)
      exact⟨_,p1,g,by simpa [Instr.storeAt,Instr.sureAddr] using N,gP,mf.trans m6⟩
    .cases I
   .cases s
  .cases s
 .cases s
end
end Go.Abs
