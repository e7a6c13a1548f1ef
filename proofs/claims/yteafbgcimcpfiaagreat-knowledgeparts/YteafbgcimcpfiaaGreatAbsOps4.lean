/- The abstract interpreter: values, stores, operations, code. Plain definitions; nothing is claimed here. -/
import GoSem.Step
import Derived.Below
import Derived.Deep.AppendSrc
import Derived.Deep.LoopGhost
import Derived.Laws.IdiomStrings
import Derived.Lib.Strings
set_option linter.all false
open Option renaming some→Zz
open Nat renaming beq→Zy,eq_of_beq_eq_true→Zx,le_of_ble_eq_true→Zu,blt→Zk,le_refl→Zd,lt_of_lt_of_le→Zf,mul_le_mul_right→Zm,ble→Zh,add_mul→Yy
open Decidable renaming decide→Zw
open Bool renaming false→Zv,and_eq_true→Zp,true→Zn
open List renaming getElem?_eq_some_iff→Zq,getElem?_take→Zj,flatMap_cons→Zg,getElem?_eq_getElem→Zb,eq_nil_of_length_eq_zero→Yz,getElem?_drop→Yx
namespace Kerb
def EZ(n m:Int):Int:=if m<n then m else n
def imax(n m:Int):Int:=if m>n then m else n
end Kerb
namespace Go.Abs
abbrev Qa0:=@if_neg
abbrev Qa1:=@if_pos
abbrev Qa2:=@decide_eq_true_eq
abbrev Qa3:=@of_decide_eq_true
abbrev Qa4:=@decide_eq_true
abbrev Qa5:=@decide_eq_false
abbrev Qa6:=@cond_true
abbrev Qa7:=@cond_false
abbrev Qa8:=@and_true
abbrev Qa9:=@true_and
abbrev Qb0:=@eq_of_beq
abbrev Qb1:=@beq_iff_eq
abbrev Qb2:=@beq_self_eq_true
abbrev Qb3:=@Eq.trans
abbrev Qb4:=@decide_true
abbrev Qb5:=@congrArg
inductive AV where
 | undef
 | int (k:IntKind) (n:Int)
 | u8 (b:UInt8)
 | bool (b:Bool)
 | str (s:List UInt8)
 | bs (l:List UInt8)
 | sl (sz:Nat) (els:List AV)
 | dc
 | row (k:Nat)
 | ptr (k off:Nat)
 | kj (k i sz off:Nat)
 | kG (cs:List AV)
 | nv
 | agg (cs:List AV)
 | aQ (vs:List AV)
 | bS (l:List UInt8)
 | aI (els:List AV)
 | bN (k:Nat) (iF:List Nat)
 | rD (k off:Nat)
 | pre (k n:Nat)
 | FX (k m:Nat)
 | fn (f:Nat)
 | Cv (f:Nat) (fs cs:List (Nat×Nat))
 | Fb
 | mp (k:Nat)
 | xT
 | bK (k e sz:Nat)
inductive bH where
 | free
 | dead
 | cells (cs:List AV)
 | jm (l:List UInt8) (iG:Bool)
 | fb (e:Nat) (l:List UInt8) (iG:Bool)
 | dz (e sz:Nat) (els:List AV) (iG:Bool)
 | ou (str:Bool) (kd:IntKind) (els:List AV)
 | iW (e sz:Nat) (els:List AV)
inductive CT where
 | int (k:IntKind) | u8 | bool | str | eS | sl (sz:Nat) | ptr | other
inductive TK where
 | int (k:IntKind) | u8 | bool | str
 | slice (e:Nat) (byte:Bool)
 | c4 (n e:Nat) (byte:Bool)
 | struct (fs:List (Nat×Nat))
 | ptr (e:Nat)
 | map (k e:Nat)
 | other
structure TI where
 size:Nat
 bytes:Nat
 kind:TK
 zero:List AV
 hO:List CT
 U0:List CT
inductive KC where
 | l_ (c:CT)
 | own (key e z:Nat) (byte:Bool)
 | so (key:Nat) (str:Bool) (kd:IntKind)
inductive jz where
 | val (slot ty:Nat)
 | fb (slot e:Nat) (iG:Bool)
 | dz (slot e sz:Nat) (iG:Bool)
 | ptr (slot k off:Nat)
 | cells (k:Nat) (hO:List CT)
 | jm (k:Nat) (iG:Bool)
 | bN (slot k:Nat) (iF:List Nat)
 | lg (k:Nat) (sQ:List KC)
 | rowAt (k:Nat) (h:Bool) (e sz:Nat)
 | hZ (slot k e sz:Nat)
abbrev aw:=List (List AV)
abbrev Nq:=Nat->List AV->List (Nat×List AV)->Option (AV×aw)
structure Fr where
 aS:Nat->AV
 st:Nat->bH
structure FP where
 rd:List Nat
 wr:List Nat
def FP.none:FP:=⟨[],[]⟩
abbrev lO(α:Type):=AV->(Nat->bH)->FP->Option α
def merge(wr:List Nat)(s1 s2:Nat->bH):Nat->bH:=fun x=>if x∈wr then s1 x else s2 x
abbrev vj(A:Type):=(β:Type)->(Nat->bH)->(A->(Nat->bH)->FP->Option β)->Option β
structure Loc {A:Type} (T:vj A) (st:Nat->bH) (a:A) (st':Nat->bH) (fp:FP):Prop where
 nz:∀ x,x ∉ fp.wr->st' x=st x
 run:∀ cf,(∀ x∈fp.rd,cf x=st x)->∀ β k2,T β cf k2=k2 a (merge fp.wr st' cf) fp
structure az {A:Type} (T:vj A):Prop where
 go:∀ {α:Type} {st:Nat->bH} {k:A->(Nat->bH)->FP->Option α} {r:α},T α st k=Zz r->∃ a st' fp,k a st' fp=Zz r/\Loc T st a st' fp
structure F0 where
 run:(α:Type)->Nat->List AV->(Nat->bH)->lO α->Option α
 loc:∀ kb args,az (fun β s k=>run β kb args s k)
structure Env where
 ty:Nat->Option TI
 jf:Nat->List jz
 own:Nat->Bool
 call:Nq
 qZ:Nat->Option (List AV)
 hand:List Nat
 kb:Nat
 inl:Nat->Option F0
section
variable {α:Type}
def AV.ax(kd:IntKind)(v:AV)(f:Int->Option α):Option α:=match v with | .int k n=>bif k==kd then f n else none | _=>none
def AV.pO(v:AV)(f:UInt8->Option α):Option α:=match v with | .u8 b=>f b | _=>none
def AV.dD(v:AV)(f:Bool->Option α):Option α:=match v with | .bool b=>f b | _=>none
def AV.oV(v:AV)(f:Bool->Option α)(s:Option α):Option α:=match v with | .bool b=>f b | .aQ []=>s | _=>none
def AV.Ld(v:AV)(f:Nat->List (Nat×Nat)->List (Nat×Nat)->Option α):Option α:=match v with | .fn n=>f n [] [] | .Cv n a b=>f n a b | _=>none
def Pg:List AV->Option (List (Nat×Nat))
 | []=>Zz []
 | .ptr k o::r=>(Pg r).map ((k,o) :: ·)
 | _=>none
def lT(l:List (Nat×Nat)):List AV:=l.map fun x => .ptr x.1 x.2
def AV.fB(v:AV)(f:List UInt8->Option α):Option α:=match v with | .str s=>f s | _=>none
def AV.dm(v:AV)(f:List UInt8->Option α):Option α:=match v with | .bs l=>f l | _=>none
def AV.fR(sz:Nat)(v:AV)(f:List AV->Option α):Option α:=match v with | .sl z l=>bif Zy z sz then f l else none | _=>none
def AV.cV(v:AV)(f:List AV->Option α):Option α:=match v with | .agg l=>f l | _=>none
def AV.gT(v:AV)(f:List AV->Option α):Option α:=match v with | .aQ l=>f l | _=>none
def AV.fA(v:AV)(f:List UInt8->Option α):Option α:=match v with | .bS l=>f l | _=>none
def AV.aW(v:AV)(f:List AV->Option α):Option α:=match v with | .aI l=>f l | _=>none
def aA(l:List AV)(f:AV->List AV->Option α):Option α:=match l with | x::r=>f x r | []=>none
def ak(l:List AV)(f:Option α):Option α:=match l with | []=>f | _::_=>none
def aD(b:Bool)(f:Option α):Option α:=cond b f none
def aG(b:Bool)(f g:Option α):Option α:=cond b f g
def aE(l:List (List AV))(f:Option α):Option α:=match l with | []=>f | _::_=>none
def aB(l:List (List AV))(f:List AV->List (List AV)->Option α):Option α:=match l with | x::r=>f x r | []=>none
end
def eO:List CT->List AV->Bool
 | [],[]=>Zn
 | .int k::cs,.int k' _::vs=>k==k'&&eO cs vs
 | .u8::cs,.u8 _::vs=>eO cs vs
 | .bool::cs,.bool _::vs=>eO cs vs
 | .str::cs,.str _::vs=>eO cs vs
 | _,_=>Zv
def AV.cells:AV->List AV
 | .agg cs=>cs
 | v=>[v]
def AV.ea:AV->Bool
 | .int .. | .u8 _ | .bool _ | .str _ | .bs _ | .sl .. | .dc | .row _ | .ptr .. | .kj .. | .kG _ | .nv | .bN .. | .rD .. | .pre .. | .FX .. | .fn _ | .Cv .. | .Fb | .mp _ | .xT | .bK .. => Zn
 | _=>Zv
def ov(k:IntKind)(n:Int):AV:=match k with | .u8 => .u8 (UInt8.ofNat n.toNat) | k => .int k n
def Fh:Value->Option AV
 | .bool b=>Zz (.bool b)
 | .int k n=>match k with
  | .u8=>bif Zw (0<=n)&&Zw (n<256) then Zz (.u8 (UInt8.ofNat n.toNat)) else none
  | k=>Zz (.int k n)
 | .string s=>Zz (.str s.data.toList)
 | .slice none 0 0=>Zz .dc
 | .pointer none=>Zz .nv
 | .map none=>Zz .Fb
 | .nilFunc=>Zz .xT
 | _=>none
def oU:List Value->Option (List AV)
 | []=>Zz []
 | v::r=>match Fh v,oU r with | some a,Zz l=>Zz (a::l) | _,_=>none
def O_(v:Value):Option AV :=
 match v with
 | .agg cs=>(oU cs.toList).map .agg
 | v=>Fh v
def mV:AV->AV->Bool
 | .int a n,.int b m=>(a==b)&&(n==m)
 | .str a,.str b=>a==b
 | _,_=>Zv
def gB:AV->AV
 | .aQ (k::_)=>k
 | _ => .undef
def tP:AV->AV
 | .aQ [_,v]=>v
 | _ => .undef
def _root_.Kerb.pD(x:AV):List AV->Option AV
 | []=>none
 | e::r=>bif mV (gB e) x then Zz (tP e) else Kerb.pD x r
def _root_.Kerb.Zs(x:AV)(l:List AV):Bool:=(Kerb.pD x l).isSome
def _root_.Kerb.getM(x:AV)(l:List AV)(d:AV):AV:=(Kerb.pD x l).getD d
def _root_.Kerb.oY(x v:AV):List AV->List AV
 | []=>[.aQ [x,v]]
 | e::r=>bif mV (gB e) x then .aQ [x,v]::r else e::Kerb.oY x v r
def qo(str:Bool)(kd:IntKind)(v:AV):Bool:=match v with
 | .int k _ => !str&&k==kd
 | .str _=>str
 | _=>Zv
def xI(i:TI):Option (Bool×IntKind):=match i.kind with
 | .int k=>Zz (Zv,k)
 | .str=>Zz (Zn,.i64)
 | _=>none
section ops
variable {α:Type} (E:Env)
def gD(c:CT)(v:AV)(k:AV->Option α):Option α :=
 match c with
 | .int kd=>v.ax kd fun n=>k (.int kd n)
 | .u8=>v.pO fun b=>k (.u8 b)
 | .bool=>v.dD fun b=>k (.bool b)
 | .str=>v.fB fun b=>k (.str b)
 | .eS=>v.dm fun b=>k (.bs b)
 | .sl z=>v.fR z fun b=>k (.sl z b)
 | _=>none
def nN:List CT->List AV->(List AV->Option α)->Option α
 | [],l,k=>ak l (k [])
 | c::cs,l,k=>aA l fun x r=>gD c x fun x'=>nN cs r fun r'=>k (x'::r')
def da:TK->Bool
 | .struct _ | .c4 .. => Zn
 | _=>Zv
def zeroV(i:TI):AV:=match da i.kind with
 | true => .agg i.zero
 | false=>i.zero.headD .undef
def norm(i:TI)(v:AV)(k:AV->Option α):Option α :=
 match da i.kind with
 | true=>v.cV fun cs=>nN i.hO cs fun jx=>k (.agg jx)
 | false=>match i.hO with
  | [c]=>gD c v k
  | _=>none
def cQ{β:Type}(f:Nat->β)(k:Nat)(b:β):Nat->β:=fun x=>bif Zy x k then b else f x
def Bx(c:CT)(v:AV)(st:Nat->bH)(k:AV->(Nat->bH)->FP->Option α):Option α :=
 match c,v with
 | .eS,.dc=>k (.bs []) st .none
 | .sl z,.dc=>k (.sl z []) st .none
 | _,.row r=>match st r with
  | .fb e l _=>k (.bs l) (cQ st r (.fb e l Zn)) ⟨[r],[r]⟩
  | .dz e z l _=>k (.sl z l) (cQ st r (.dz e z l Zn)) ⟨[r],[r]⟩
  | _=>none
 | _,.int kd n=>k (.int kd n) st .none
 | _,.u8 b=>k (.u8 b) st .none
 | _,.bool b=>k (.bool b) st .none
 | _,.str s=>k (.str s) st .none
 | _,.bs l=>k (.bs l) st .none
 | _,.sl z l=>k (.sl z l) st .none
 | _,.nv=>k .nv st .none
 | _,.kG cs=>k (.kG cs) st .none
 | _,_=>none
def FP.add(a b:FP):FP:=⟨a.rd++b.rd,a.wr++b.wr⟩
def nB:List CT->List AV->(Nat->bH)->(List AV->(Nat->bH)->FP->Option α)->Option α
 | [],[],st,k=>k [] st .none
 | c::cs,v::vs,st,k=>Bx c v st fun a cH f1=>nB cs vs cH fun l cf f2=>k (a::l) cf (f1.add f2)
 | _,_,_,_=>none
def out(i:TI)(v:AV)(st:Nat->bH)(k:AV->(Nat->bH)->FP->Option α):Option α :=
 match da i.kind,v with
 | true,.agg cs=>nB i.hO cs st fun l st' f=>k (.agg l) st' f
 | false,v=>match i.hO with
  | [c]=>Bx c v st k
  | _=>none
 | _,_=>none
def MB(i:TI)(v:AV)(st:Nat->bH)(k:AV->(Nat->bH)->FP->Option α):Option α :=
 match v with
 | .dc=>k .dc st .none
 | v=>out i v st k
def iI(x y:AV)(k:IntKind->Int->Int->Option α):Option α :=
 match x,y with
 | .int a n,.int b m=>bif a==b then k a n m else none
 | .u8 n,.u8 m=>k .u8 n.toNat m.toNat
 | _,_=>none
def mB:AV->AV->Option Bool
 | .int a n,.int b m=>bif a==b then Zz (n==m) else none
 | .u8 n,.u8 m=>Zz (n==m)
 | .bool a,.bool b=>Zz (a==b)
 | .str a,.str b=>Zz (a==b)
 | _,_=>none
def NB(a b:Option Bool):Option Bool:=match a with
 | some x=>match b with
  | some y=>Zz (x&&y)
  | none=>none
 | none=>none
def dW:List AV->List AV->Option Bool
 | [],[]=>Zz Zn
 | [x],[y]=>mB x y
 | x::xs,y::ys=>NB (mB x y) (dW xs ys)
 | _,_=>none
def rH:AV->Option Int
 | .int _ n=>Zz n
 | .u8 b=>Zz b.toNat
 | _=>none
def ny(op:BinOp)(x y:AV):Option AV :=
 match op with
 | .shl=>match x,rH y with
  | .int k n,Zz m=>aD (Zw (0<=m)) (Zz (.int k (k.wrap (n*2 ^ (min m.toNat k.bits)))))
  | .u8 n,Zz m=>aD (Zw (0<=m)) (Zz (ov .u8 (IntKind.u8.wrap ((n.toNat:Int)*2 ^ (min m.toNat 8)))))
  | _,_=>none
 | .shr=>match x,rH y with
  | .int k n,Zz m=>aD (Zw (0<=m)) (Zz (.int k (n.fdiv (2 ^ (min m.toNat k.bits)))))
  | .u8 n,Zz m=>aD (Zw (0<=m)) (Zz (ov .u8 ((n.toNat:Int).fdiv (2 ^ (min m.toNat 8)))))
  | _,_=>none
 | .add=>match x,y with
  | .str a,.str b=>aD (Zw (a.length+b.length<=4611686018427387904)) (Zz (.str (a++b)))
  | x,y=>iI x y fun k n m=>Zz (ov k (k.wrap (n+m)))
 | .sub=>iI x y fun k n m=>Zz (ov k (k.wrap (n-m)))
 | .mul=>iI x y fun k n m=>Zz (ov k (k.wrap (n*m)))
 | .quo=>iI x y fun k n m=>aD (!(m==0)) (Zz (ov k (k.wrap (n.tdiv m))))
 | .rem=>iI x y fun k n m=>aD (!(m==0)) (Zz (ov k (n.tmod m)))
 | .and=>iI x y fun k n m=>Zz (ov k (k.wrap (BitVec.ofInt k.bits n &&& BitVec.ofInt k.bits m).toNat))
 | .or=>iI x y fun k n m=>Zz (ov k (k.wrap (BitVec.ofInt k.bits n ||| BitVec.ofInt k.bits m).toNat))
 | .xor=>iI x y fun k n m=>Zz (ov k (k.wrap (BitVec.ofInt k.bits n ^^^ BitVec.ofInt k.bits m).toNat))
 | .lss=>match x,y with
  | .str a,.str b=>Zz (.bool (Op.bytesLess a b))
  | x,y=>iI x y fun _ n m=>Zz (.bool (Zw (n<m)))
 | .leq=>match x,y with
  | .str a,.str b=>Zz (.bool (Op.bytesLess a b||a==b))
  | x,y=>iI x y fun _ n m=>Zz (.bool (Zw (n<=m)))
 | .gtr=>match x,y with
  | .str a,.str b=>Zz (.bool (!(Op.bytesLess a b||a==b)))
  | x,y=>iI x y fun _ n m=>Zz (.bool (Zw (n>m)))
 | .geq=>match x,y with
  | .str a,.str b=>Zz (.bool !(Op.bytesLess a b))
  | x,y=>iI x y fun _ n m=>Zz (.bool (Zw (n>=m)))
 | .eql=>match x,y with
  | .agg a,.agg b=>(dW a b).map .bool
  | x,y=>(mB x y).map .bool
 | .neq=>match x,y with
  | .agg a,.agg b=>(dW a b).map fun c => .bool !c
  | x,y=>(mB x y).map fun c => .bool !c
 | _=>none
def AF(op:BinOp)(x y:AV):Option (Bool×AV) :=
 match op with
 | .shl=>match x,rH y with
  | .int k n,Zz m=>Zz (Zw (0<=m),.int k (k.wrap (n*2 ^ (min m.toNat k.bits))))
  | .u8 n,Zz m=>Zz (Zw (0<=m),ov .u8 (IntKind.u8.wrap ((n.toNat:Int)*2 ^ (min m.toNat 8))))
  | _,_=>none
 | .shr=>match x,rH y with
  | .int k n,Zz m=>Zz (Zw (0<=m),.int k (n.fdiv (2 ^ (min m.toNat k.bits))))
  | .u8 n,Zz m=>Zz (Zw (0<=m),ov .u8 ((n.toNat:Int).fdiv (2 ^ (min m.toNat 8))))
  | _,_=>none
 | .add=>match x,y with
  | .str a,.str b=>Zz (Zw (a.length+b.length<=4611686018427387904),.str (a++b))
  | x,y=>(ny .add x y).map fun v=>(Zn,v)
 | .quo=>iI x y fun k n m=>Zz (!(m==0),ov k (k.wrap (n.tdiv m)))
 | .rem=>iI x y fun k n m=>Zz (!(m==0),ov k (n.tmod m))
 | op=>(ny op x y).map fun v=>(Zn,v)
def mm2(mx:Bool)(x y:AV):Option AV :=
 match x,y with
 | .int a n,.int b m=>bif a==b then Zz (.int a (match mx with | true=>Kerb.imax n m | false=>Kerb.EZ n m)) else none
 | _,_=>none
def Br(mx:Bool):AV->List AV->Option AV
 | x,[]=>match x with
  | .int k n=>Zz (.int k n)
  | _=>none
 | x,y::r=>(mm2 mx x y).bind fun z=>Br mx z r
def O4(mx:Bool):List AV->Option AV
 | []=>none
 | x::r=>Br mx x r
def Ti(op:UnOp)(x:AV):Option AV :=
 match op,x with
 | .not,.bool b=>Zz (.bool !b)
 | .neg,.int k n=>Zz (.int k (k.wrap (0-n)))
 | _,_=>none
def bytesOf(st:Nat->bH)(v:AV)(k:List UInt8->FP->Option α):Option α :=
 match v with
 | .bs l=>k l .none
 | .dc=>k [] .none
 | .row r=>match st r with
  | .fb _ l _=>k l ⟨[r],[]⟩
  | _=>none
 | _=>none
def w5(sz:Nat)(st:Nat->bH)(v:AV)(k:List AV->FP->Option α):Option α :=
 match v with
 | .sl z l=>bif Zy z sz then k l .none else none
 | .dc=>k [] .none
 | .row r=>match st r with
  | .dz _ z l _=>bif Zy z sz then k l ⟨[r],[]⟩ else none
  | _=>none
 | _=>none
def lenOf(st:Nat->bH)(v:AV)(k:Nat->FP->Option α):Option α :=
 match v with
 | .bs l=>k l.length .none
 | .sl _ l=>k l.length .none
 | .dc=>k 0 .none
 | .bN _ iF=>k iF.length .none
 | .row r=>match st r with
  | .fb _ l _=>k l.length ⟨[r],[]⟩
  | .dz _ _ l _=>k l.length ⟨[r],[]⟩
  | _=>none
 | .bK r _ _=>match st r with
  | .iW _ _ l=>k l.length ⟨[r],[]⟩
  | _=>none
 | _=>none
def QZ:List AV->Option (List UInt8)
 | []=>Zz []
 | .u8 b::r=>(QZ r).map (b :: ·)
 | _=>none
def place(cs:List AV)(off:Nat)(news:List AV):List AV:=cs.take off++news++cs.drop (off+news.length)
def ss:List AV->Nat->List AV->List AV
 | [],_,_=>[]
 | c::cs,0,n=>match n with
  | []=>c::cs
  | x::r=>x::ss cs 0 r
 | c::cs,k+1,n=>c::ss cs k n
def fill(iF:Nat->Option (Nat×Nat)):List (Nat×AV)->List AV->Option (List AV)
 | [],cs=>Zz cs
 | (i,v)::r,cs=>match iF i with
  | some q=>bif v.cells.length==q.2&&Zh (q.1+q.2) cs.length&&v.cells.all AV.ea then fill iF r (ss cs q.1 v.cells) else none
  | none=>none
end ops
def cT(E:Env)(fr:Fr):Operand->Option AV
 | .tmp t=>Zz (fr.aS t)
 | .const v=>O_ v
 | .global g=>(E.qZ g).map .kG
 | .func f=>Zz (.fn f)
def gy(E:Env)(fr:Fr):List Operand->Option (List AV)
 | []=>Zz []
 | x::r=>match cT E fr x,gy E fr r with | some a,Zz l=>Zz (a::l) | _,_=>none
def ic(E:Env)(fr:Fr):List (Nat×Operand)->Option (List (Nat×AV))
 | []=>Zz []
 | (i,x)::r=>match cT E fr x,ic E fr r with | some a,Zz l=>Zz ((i,a)::l) | _,_=>none
section step
variable {α:Type} (E:Env) (fr:Fr)
def iJ(t:Nat)(b:bH)(v:AV)(k:lO α):Option α :=
 match fr.st t with
 | .free=>k v (cQ fr.st t b) ⟨[t],[t]⟩
 | _=>none
def loadCells(i:TI)(cs:List AV)(k:AV->Option α):Option α :=
 bif Zh i.size cs.length then
  match da i.kind with
  | true=>k (.agg (cs.take i.size))
  | false=>match cs with
   | c::_=>k c
   | []=>none
 else none
def kh(i:TI)(a:AV)(k:lO α):Option α :=
 match a with
 | .ptr b off=>match fr.st b with
  | .cells cs=>loadCells i (cs.drop off) fun v=>k v fr.st ⟨[b],[]⟩
  | _=>none
 | .kG cs=>loadCells i cs fun v=>k v fr.st .none
 | .rD b off=>match i.kind with
  | .ptr _=>aD (Zy i.size 1) (k (.ptr b off) fr.st .none)
  | _=>none
 | .kj b j sz off=>match fr.st b with
  | .fb _ l _=>aD (Zk j l.length&&Zy off 0&&Zy sz 1 && !da i.kind) (k (.u8 (l.getD j 0)) fr.st ⟨[b],[]⟩)
  | .jm l _=>aD (Zk j l.length&&Zy off 0&&Zy sz 1 && !da i.kind) (k (.u8 (l.getD j 0)) fr.st ⟨[b],[]⟩)
  | .dz e z l _=>match E.ty e with
   | some ei=>aD (Zk j l.length&&Zy z sz) (norm ei (l.getD j .undef) fun v=>loadCells i (v.cells.drop off) fun v=>k v fr.st ⟨[b],[]⟩)
   | none=>none
  | .iW e z l=>match E.ty e with
   | some ei=>aD (Zk j l.length&&Zy z sz) (norm ei (l.getD j .undef) fun v=>loadCells i (v.cells.drop off) fun v=>k v fr.st ⟨[b],[]⟩)
   | none=>none
  | _=>none
 | _=>none
def sU(ei:TI)(old:AV)(off:Nat)(news:List AV):AV:=match da ei.kind with
 | true => .agg (place old.cells off news)
 | false=>news.headD .undef
def nZ(i:TI)(a v:AV)(k:lO α):Option α :=
 match a with
 | .ptr b off=>match fr.st b with
  | .cells cs=>bif v.cells.length==i.size&&Zh (off+i.size) cs.length&&v.cells.all AV.ea then k .undef (cQ fr.st b (.cells (ss cs off v.cells))) ⟨[b],[b]⟩ else none
  | _=>none
 | .kj b j sz off=>match fr.st b with
  | .fb e l iG=>v.pO fun x=>aD (Zk j l.length&&Zy off 0&&Zy sz 1&&Zy i.size 1 && !iG) (k .undef (cQ fr.st b (.fb e (l.set j x) Zv)) ⟨[b],[b]⟩)
  | .jm l iG=>v.pO fun x=>aD (Zk j l.length&&Zy off 0&&Zy sz 1&&Zy i.size 1 && !iG) (k .undef (cQ fr.st b (.jm (l.set j x) Zv)) ⟨[b],[b]⟩)
  | .dz e z l iG=>match E.ty e with
   | some ei=>aD (Zk j l.length&&Zy z sz && !iG) (out i v fr.st fun v' cH f1=>match cH b with
    | .dz e1 z1 l1 Zv=>norm ei (l1.getD j .undef) fun old =>
      aD (v'.cells.length==i.size&&Zh (off+i.size) old.cells.length&&Zk 0 i.size&&Zy z1 z&&Zk j l1.length)
       (k .undef (cQ cH b (.dz e1 z1 (l1.set j (sU ei old off v'.cells)) Zv)) (f1.add ⟨[b],[b]⟩))
    | _=>none)
   | none=>none
  | .iW e z l=>match E.ty e with
   | some ei=>aD (Zk j l.length&&Zy z sz) (out i v fr.st fun v' cH f1=>match cH b with
    | .iW e1 z1 l1=>norm ei (l1.getD j .undef) fun old =>
      aD (v'.cells.length==i.size&&Zh (off+i.size) old.cells.length&&Zk 0 i.size&&Zy z1 z&&Zk j l1.length)
       (k .undef (cQ cH b (.iW e1 z1 (l1.set j (sU ei old off v'.cells)))) (f1.add ⟨[b],[b]⟩))
    | _=>none)
   | none=>none
  | _=>none
 | _=>none
def oh(q:Nat)(v:AV)(k:lO α):Option α :=
 match v with
 | .ptr b off=>k (.ptr b (off+q)) fr.st .none
 | .kG cs=>k (.kG (cs.drop q)) fr.st .none
 | .kj b j sz off=>k (.kj b j sz (off+q)) fr.st .none
 | _=>none
def rX(i:TI)(f:Nat):Option (Nat×Nat):=match i.kind with | .struct fs=>fs[f]? | _=>none
def BE:List Nat->Nat->(Nat->Option α)->Option α
 | [],_,_=>none
 | o::r,n,f=>aG (Zy n 0) (f o) (BE r (n-1) f)
def idx(v:AV):Option Int:=match v with | .int _ n=>Zz n | .u8 b=>Zz b.toNat | _=>none
def fw(i:TI)(x ix:AV)(k:lO α):Option α :=
 match i.kind,x,idx ix with
 | .slice e Zn,x,Zz n=>match x with
  | .bs l=>aD (Zw (0<=n)&&Zw (n<l.length)) (k (.kG [.u8 (l.getD n.toNat 0)]) fr.st .none)
  | .row r=>match fr.st r with
   | .fb _ l _=>aD (Zw (0<=n)&&Zw (n<l.length)) (k (.kj r n.toNat 1 0) fr.st ⟨[r],[]⟩)
   | _=>none
  | _=>none
 | .slice e Zv,x,Zz n=>match E.ty e with
  | some ei=>match x with
   | .sl z l=>aD (Zw (0<=n)&&Zw (n<l.length)&&Zy z ei.size) (norm ei (l.getD n.toNat .undef) fun v=>k (.kG v.cells) fr.st .none)
   | .bN b iF=>aD (Zw (0<=n)&&Zw (n<iF.length)&&Zy ei.size 1) (BE iF n.toNat fun o=>k (.rD b o) fr.st .none)
   | .row r=>match fr.st r with
    | .dz _ z l _=>aD (Zw (0<=n)&&Zw (n<l.length)&&Zy z ei.size) (k (.kj r n.toNat z 0) fr.st ⟨[r],[]⟩)
    | _=>none
   | .bK r _ _=>match fr.st r with
    | .iW _ z l=>aD (Zw (0<=n)&&Zw (n<l.length)&&Zy z ei.size) (k (.kj r n.toNat z 0) fr.st ⟨[r],[]⟩)
    | _=>none
   | _=>none
  | none=>none
 | .c4 len e Zn,.ptr b 0,Zz n=>match fr.st b with
  | .jm l _=>aD (Zw (0<=n)&&Zw (n<l.length)&&Zy l.length len&&Zk 1 len) (k (.kj b n.toNat 1 0) fr.st ⟨[b],[]⟩)
  | _=>none
 | .c4 len e Zv,.ptr b off,Zz n=>match E.ty e with
  | some ei=>aD (Zw (0<=n)&&Zw (n<(len:Int))&&Zk 1 len) (k (.ptr b (off+n.toNat*ei.size)) fr.st .none)
  | none=>none
 | .c4 len e Zv,.kG cs,Zz n=>match E.ty e with
  | some ei=>aD (Zw (0<=n)&&Zw (n<(len:Int))&&Zk 1 len&&Zy ei.size 1&&Zh len cs.length) (norm ei (cs.getD n.toNat .undef) fun v=>k (.kG [v]) fr.st .none)
  | none=>none
 | _,_,_=>none
def wZ(i:TI)(x ix:AV)(k:lO α):Option α :=
 match i.kind,x,idx ix with
 | .str,.str l,Zz n=>aD (Zw (0<=n)&&Zw (n<l.length)) (k (.u8 (l.getD n.toNat 0)) fr.st .none)
 | _,_,_=>none
def tw(v:Option AV)(d:Nat):Option Int:=match v with | none=>Zz (d:Int) | some v=>idx v
def uR(i:TI)(x:AV)(lo hi mx:Option AV)(k:lO α):Option α :=
 match mx with
 | some _=>none
 | none=>match i.kind with
  | .str=>x.fB fun l=>match tw lo 0,tw hi l.length with
   | some a,Zz b=>aD (Zw (0<=a)&&Zw (a<=b)&&Zw (b<=l.length)) (k (.str ((l.take b.toNat).drop a.toNat)) fr.st .none)
   | _,_=>none
  | .slice e Zn=>Bx .eS x fr.st fun v st fp=>v.dm fun l=>match tw lo 0,tw hi l.length with
   | some a,Zz b=>aD (Zw (0<=a)&&Zw (a<=b)&&Zw (b<=l.length)) (k (.bs ((l.take b.toNat).drop a.toNat)) st fp)
   | _,_=>none
  | .slice e Zv=>match E.ty e with
   | some ei=>Bx (.sl ei.size) x fr.st fun v st fp=>v.fR ei.size fun l=>match tw lo 0,tw hi l.length with
    | some a,Zz b=>aD (Zw (0<=a)&&Zw (a<=b)&&Zw (b<=l.length)) (k (.sl ei.size ((l.take b.toNat).drop a.toNat)) st fp)
    | _,_=>none
   | none=>none
  | .c4 n e Zn=>match x with
   | .ptr b 0=>match fr.st b with
    | .jm l _=>match tw lo 0,tw hi l.length with
     | some a,Zz c=>aD (Zw (0<=a)&&Zw (a<=c)&&Zw (c<=l.length)&&Zy l.length n) (k (.bs ((l.take c.toNat).drop a.toNat)) (cQ fr.st b (.jm l Zn)) ⟨[b],[b]⟩)
     | _,_=>none
    | _=>none
   | _=>none
  | _=>none
def tL(i:TI)(x:AV)(lo:Option AV)(hi m:AV)(k:lO α):Option α :=
 match i.kind with
 | .slice e Zn=>Bx .eS x fr.st fun v st fp=>v.dm fun l=>match tw lo 0,idx hi,idx m with
  | some a,Zz b,Zz c=>aD (Zw (0<=a)&&Zw (a<=b)&&Zw (b<=c)&&Zw (c<=l.length)) (k (.bs ((l.take b.toNat).drop a.toNat)) st fp)
  | _,_,_=>none
 | .slice e Zv=>match E.ty e,lo,idx hi,idx m with
  | some _,none,Zz b,Zz c=>aD (b==0&&c==0) (match x with
   | .sl _ _=>k .dc fr.st .none
   | .dc=>k .dc fr.st .none
   | .row _=>k .dc fr.st .none
   | _=>none)
  | _,_,_,_=>none
 | _=>none
def tM(i:TI)(x:AV)(lo hi:Option AV)(k:lO α):Option α :=
 match i.kind,x with
 | .slice _ Zn,.row r=>match fr.st r with
  | .fb _ l p=>match lo,hi with
   | none,Zz h=>match idx h with
    | some b=>aD (Zw (0<=b)&&Zw (b<=l.length)&&Zk 0 l.length && !p) (k (.pre r b.toNat) fr.st ⟨[r],[]⟩)
    | none=>none
   | some a,none=>match idx a with
    | some a=>aD (Zw (0<=a)&&Zw (a<=l.length)&&Zk 0 l.length && !p) (k (.FX r a.toNat) fr.st ⟨[r],[]⟩)
    | none=>none
   | _,_=>none
  | _=>none
 | _,_=>none
def qW(t:Nat)(ki:TI)(k:lO α):Option α :=
 match xI ki with
 | some q=>iJ fr t (.ou q.1 q.2 []) (.mp t) k
 | none=>none
def pC(ki ei:TI)(m q:AV)(ok:Bool)(k:lO α):Option α :=
 match m with
 | .mp b=>match fr.st b with
  | .ou s kd els=>match xI ki with
   | some z=>aD ((z.1==s)&&(z.2==kd)&&qo s kd q) (norm ei (Kerb.getM q els (zeroV ei)) fun v=>match ok with
    | true=>k (.aQ [v,.bool (Kerb.Zs q els)]) fr.st ⟨[b],[]⟩
    | false=>k v fr.st ⟨[b],[]⟩)
   | none=>none
  | _=>none
 | _=>none
def qX(ki ei:TI)(m q x:AV)(k:lO α):Option α :=
 match m with
 | .mp b=>match fr.st b with
  | .ou s kd els=>match xI ki with
   | some z=>aD ((z.1==s)&&(z.2==kd)&&qo s kd q) (out ei x fr.st fun v cH f1=>match cH b with
    | .ou s1 T' EF=>aD ((s1==s)&&(T'==kd)) (k .undef (cQ cH b (.ou s kd (Kerb.oY q v EF))) (f1.add ⟨[b],[b]⟩))
    | _=>none)
   | none=>none
  | _=>none
 | _=>none
def qV(s d:TI)(x:AV)(k:lO α):Option α :=
 match d.kind with
 | .int kd=>match idx x with
  | some n=>k (.int kd (kd.wrap n)) fr.st .none
  | none=>none
 | .u8=>match idx x with
  | some n=>k (ov .u8 (IntKind.u8.wrap n)) fr.st .none
  | none=>none
 | .str=>match s.kind with
  | .str=>x.fB fun l=>k (.str l) fr.st .none
  | .slice _ Zn=>bytesOf fr.st x fun l fp=>k (.str l) fr.st fp
  | _=>none
 | .slice _ Zn=>match s.kind with
  | .str=>x.fB fun l=>k (.bs l) fr.st .none
  | _=>none
 | _=>none
def room(n bytes:Nat):Bool:=Zh (n*bytes) 140737488355328&&Zh n 140737488355328
def Eo(t e:Nat)(s:AV)(new:List UInt8)(fp:FP)(k:lO α):Option α :=
 match s with
 | .dc=>aD (room new.length 1) (k (.row t) (cQ fr.st t (.fb e new Zv)) ⟨t::fp.rd,[t]⟩)
 | .row r=>match fr.st r with
  | .fb e' l p=>aD (Zy e e'&&room (l.length+new.length) 1) (k (.row t) (cQ (cQ fr.st r .dead) t (.fb e (l++new) p)) ⟨t::r::fp.rd,[t,r]⟩)
  | _=>none
 | _=>none
def I8(t e:Nat)(ei:TI)(s:AV)(new:List AV)(fp:FP)(k:lO α):Option α :=
 match s with
 | .dc=>aD (Zk 0 ei.size&&room new.length ei.bytes) (k (.row t) (cQ fr.st t (.dz e ei.size new Zv)) ⟨t::fp.rd,[t]⟩)
 | .row r=>match fr.st r with
  | .dz e' z l p=>aD (Zy e e'&&Zy z ei.size&&room (l.length+new.length) ei.bytes) (k (.row t) (cQ (cQ fr.st r .dead) t (.dz e ei.size (l++new) p)) ⟨t::r::fp.rd,[t,r]⟩)
  | _=>none
 | _=>none
def Lt(t e:Nat)(s:AV)(r m:Nat)(k:lO α):Option α :=
 match s with
 | .pre r' n=>match fr.st r with
  | .fb e' l p=>aD (Zk 0 l.length&&Zy r r'&&Zy e e' && !p&&room (n+(l.length-m)) 1) (k (.row t) (cQ (cQ fr.st r .dead) t (.fb e (l.take n++l.drop m) Zv)) ⟨[t,r],[t,r]⟩)
  | _=>none
 | _=>none
def kg(t:Nat)(i:TI)(s x:AV)(k:lO α):Option α :=
 match fr.st t with
 | .free=>match i.kind with
  | .slice e Zn=>match x with
   | .str l=>Eo fr t e s l .none k
   | .FX r m=>Lt fr t e s r m k
   | x=>bytesOf fr.st x fun new fp=>Eo fr t e s new fp k
  | .slice e Zv=>match E.ty e with
   | none=>none
   | some ei=>w5 ei.size fr.st x fun new fp=>I8 fr t e ei s new fp k
  | _=>none
 | _=>none
def ow(ei:TI):List (Nat×AV)->(Nat->bH)->(List (Nat×AV)->(Nat->bH)->FP->Option α)->Option α
 | [],st,k=>k [] st .none
 | (i,v)::r,st,k=>out ei v st fun a cH f1=>ow ei r cH fun l cf f2=>k ((i,a)::l) cf (f1.add f2)
def gR:Nat->List (Nat×AV)->Option (List AV)
 | _,[]=>Zz []
 | j,(i,v)::r=>bif Zy i j then(gR (j+1) r).map (v :: ·) else none
def ER:List (Nat×AV)->Option Nat
 | (_,.ptr k _)::_=>Zz k
 | _=>none
def y_(b:Nat):Nat->List (Nat×AV)->Option (List Nat)
 | _,[]=>Zz []
 | j,(i,.ptr k off)::r=>bif Zy i j&&Zy k b then(y_ b (j+1) r).map (off :: ·) else none
 | _,_=>none
def AG(t:Nat)(i:TI)(l c:AV)(k:lO α):Option α :=
 match i.kind,idx l,idx c with
 | .slice e Zn,Zz n,Zz m=>aD (Zw (0<=n)&&Zw (n<=m)&&Zw (m<=140737488355328)) (iJ fr t (.fb e (List.replicate n.toNat 0) Zv) (.row t) k)
 | _,_,_=>none
def pB(d:Nat)(i:TI)(len:Nat)(parts:List (Nat×AV))(k:lO α):Option α :=
 match i.kind with
 | .slice e Zn=>match gR 0 parts with
  | some els=>match QZ els with
   | some l=>bif Zy parts.length len&&Zh len 16777216&&Zk 0 len then iJ fr d (.fb e l Zv) (.row d) k else none
   | none=>none
  | none=>none
 | .slice e Zv=>match E.ty e,gR 0 parts with
  | some ei,Zz _=>bif Zy parts.length len&&Zh (len*ei.size) 16777216&&Zk 0 ei.size&&Zk 0 len then ow ei parts fr.st fun ps st fp =>
    match gR 0 ps with
    | some els=>bif els.all (fun x=>Zy x.cells.length ei.size) then iJ ⟨fr.aS,st⟩ d (.dz e ei.size els Zv) (.row d) fun v cf f2=>k v cf (fp.add f2) else none
    | none=>none
   else none
  | _,_=>none
 | _=>none
def mF(i:TI)(len:Nat)(parts:List (Nat×AV))(k:lO α):Option α :=
  match i.kind with
  | .slice e byte=>match len with
    | 0=>match parts,E.ty e with
      | [],Zz _=>k .dc fr.st .none
      | _,_=>none
    | _+1=>match ER parts with
     | some b=>match byte,E.ty e,y_ b 0 parts with
      | false,Zz ei,Zz iF=>bif Zy parts.length len&&Zy ei.size 1&&Zh len 16777216 then k (.bN b iF) fr.st .none else none
      | _,_,_=>none
     | none=>match E.ty e,gR 0 parts with
      | some ei,Zz _=>bif Zy parts.length len&&Zh (len*ei.size) 16777216&&Zk 0 ei.size then ow ei parts fr.st fun ps st fp =>
          match gR 0 ps with
          | some els=>match byte with
            | true=>match QZ els with
              | some l=>k (.bs l) st fp
              | none=>none
            | false=>bif els.all (fun x=>Zy x.cells.length ei.size) then k (.sl ei.size els) st fp else none
          | none=>none
        else none
      | _,_=>none
  | _=>none
def VB(ty:Nat):Option TI:=match E.ty ty with
 | some i=>match i.kind with
  | .ptr e=>E.ty e
  | _=>Zz i
 | none=>none
def eT(f:Nat):Nat->List Nat->List AV->(Nat->bH)->(List AV->List (Nat×Nat×List AV)->(Nat->bH)->FP->Option α)->Option α
 | _,[],[],st,k=>k [] [] st .none
 | j,ty::kN,v::vs,st,k=>match v with
  | .ptr b off=>match st b with
   | .cells cs=>match VB E ty with
    | some ei=>bif off==0&&ei.size==cs.length then nB ei.hO cs st fun jx cH f1 =>
      eT f (j+1) kN vs cH fun l bl cf f2=>bif bl.any (fun x=>x.2.1==b) then none else k (.ptr j 0::l) ((j,b,jx)::bl) cf (FP.add ⟨b::f1.rd,b::f1.wr⟩ f2)
     else none
    | none=>none
   | _=>none
  | .bK r e z=>eT f (j+1) kN vs st fun l bl cf f2=>match cf r with
   | .iW e' z' els=>bif Zy e e'&&Zy z z' && !bl.any (fun x=>x.2.1==r) then k (.bK j e z::l) ((j,r,els)::bl) cf (FP.add ⟨[r],[r]⟩ f2) else none
   | _=>none
  | v=>match E.own (1000000+f*64+j) with
   | true=>match v with
    | .row r=>eT f (j+1) kN vs st fun l bl cf f2=>match cf r with
     | .dz e z els Zv=>aD (Zk 0 els.length) (bif !bl.any (fun x=>x.2.1==r) then k (.bK j e z::l) ((j,r,els)::bl) cf (FP.add ⟨[r],[r]⟩ f2) else none)
     | _=>none
    | _=>none
   | false=>match E.ty ty with
    | some i=>MB i v st fun a cH f1=>eT f (j+1) kN vs cH fun l bl cf f2=>k (a::l) bl cf (f1.add f2)
    | none=>none
 | _,_,_,_,_=>none
def N1(ty:Nat->Option TI):Nat->Nat->List Nat
 | 0,t=>[t]
 | m+1,t=>match ty t with
  | some i=>match i.kind with
   | .struct fs=>fs.flatMap fun f=>N1 ty m f.2
   | _=>[t]
  | none=>[t]
def X9(ty:Nat->Option TI):List Nat->Nat->Option (Nat×Nat×TI)
 | [],_=>none
 | t::r,n=>match ty t with
  | some i=>match i.kind with
   | .slice e Zv=>match ty e with
    | some ei=>Zz (n,e,ei)
    | none=>none
   | _=>X9 ty r (n+1)
  | none=>none
def PC(ty:Nat->Option TI)(fs:List (Nat×Nat)):Option (Nat×Nat×TI):=X9 ty (fs.flatMap fun f=>N1 ty 5 f.2) 0
def qt(t:Nat):Nat->List CT->List AV->(List AV->List AV->Option α)->Option α
 | 0,_::hO,v,k=>aA v fun x r=>x.aW fun l=>nN hO r fun r'=>k (.row t::r') l
 | j+1,c::hO,v,k=>aA v fun x r=>gD c x fun x'=>qt t j hO r fun r' l=>k (x'::r') l
 | _,[],_,_=>none
def G4(fs:List (Nat×Nat))(t:Nat)(i:TI)(v:AV)(st:Nat->bH)(k:AV->(Nat->bH)->FP->Option α):Option α :=
 match PC E.ty fs with
 | some (j,e,ei)=>match st t with
  | .free=>v.cV fun cs=>qt t j i.hO cs fun jx l=>k (.agg jx) (cQ st t (.dz e ei.size l Zv)) ⟨[t],[t]⟩
  | _=>none
 | none=>norm i v fun v'=>k v' st .none
def sP(own:Bool)(t:Nat)(i:TI)(v:AV)(st:Nat->bH)(k:AV->(Nat->bH)->FP->Option α):Option α :=
 match own,i.kind with
 | true,.slice e Zn=>match st t with
  | .free=>v.fA fun l=>k (.row t) (cQ st t (.fb e l Zv)) ⟨[t],[t]⟩
  | _=>none
 | true,.slice e Zv=>match st t,E.ty e with
  | .free,Zz ei=>v.aW fun l=>k (.row t) (cQ st t (.dz e ei.size l Zv)) ⟨[t],[t]⟩
  | _,_=>none
 | true,.struct fs=>G4 E fs t i v st k
 | _,_=>norm i v fun v'=>k v' st .none
def mP(own:Bool)(t:Nat):List Nat->List AV->(Nat->bH)->(List AV->(Nat->bH)->FP->Option α)->Option α
 | [],l,st,k=>ak l (k [] st .none)
 | ty::kN,l,st,k=>match E.ty ty with
  | some i=>aA l fun v r=>sP E own t i v st fun a cH f1=>mP Zv (t+4096) kN r cH fun l' cf f2=>k (a::l') cf (f1.add f2)
  | none=>none
def xV(o v:AV)(k:AV->Option α):Option α :=
 match o with
 | .int kd _=>v.ax kd fun n=>k (.int kd n)
 | .u8 _=>v.pO fun b=>k (.u8 b)
 | .bool _=>v.dD fun b=>k (.bool b)
 | .str _=>v.fB fun b=>k (.str b)
 | .bs _=>v.dm fun b=>k (.bs b)
 | .sl z _=>v.fR z fun b=>k (.sl z b)
 | _=>k v
def pc:List AV->List AV->(List AV->Option α)->Option α
 | [],l,k=>ak l (k [])
 | o::os,l,k=>aA l fun x r=>xV o x fun x'=>pc os r fun r'=>k (x'::r')
def BL:bH->List AV->bH
 | .dz e z _ p,cs => .dz e z cs p
 | .iW e z _,cs => .iW e z cs
 | _,cs => .cells cs
def isRow:bH->Bool
 | .dz .. => Zn
 | .iW .. => Zn
 | _=>Zv
def mO:List (Nat×Nat×List AV)->aw->(Nat->bH)->((Nat->bH)->Option α)->Option α
 | [],bs,st,k=>aE bs (k st)
 | (_,b,old)::r,bs,st,k=>aB bs fun cs So=>match isRow (st b) with
  | true=>mO r So (cQ st b (BL (st b) cs)) k
  | false=>pc old cs fun jx=>mO r So (cQ st b (BL (st b) jx)) k
end step
def tJ{α:Type}(E:Env)(fr:Fr)(rts:Nat->Option (List Nat))(t:Nat)(f:Nat)(S8:List Nat)(args:List AV)(k:lO α):Option α :=
 match rts f with
 | none=>none
 | some rt=>eT E f 0 S8 args fr.st fun as bl st fp =>
  (E.call f as (bl.map fun x=>(x.1,x.2.2))).bind fun r=>mO bl r.2 st fun cH =>
   match rt with
   | [ty]=>match E.ty ty with
    | some i=>sP E (E.own f) t i r.1 cH fun v cf f2=>k v cf (fp.add f2)
    | none=>none
   | rt=>r.1.gT fun vs=>mP E (E.own f) t rt vs cH fun l cf f2=>k (.aQ l) cf (fp.add f2)
end Go.Abs
/- The abstract interpreter: operations dispatched, regions, code, calls. -/
namespace Go.Abs
def eP{σ ρ:Type}(step:σ->Option (σ ⊕ ρ)):Nat->σ->Option ρ
 | 0,_=>none
 | n+1,s=>match step s with
  | some (.inl s')=>eP step n s'
  | some (.inr r)=>Zz r
  | none=>none
open Classical in
noncomputable def bJ{σ ρ:Type}(step:σ->Option (σ ⊕ ρ))(s:σ):Option ρ :=
 if h:∃ n r,eP step n s=Zz r then Zz (Classical.choose (Classical.choose_spec h)) else none
def E0:bH->Bool
 | .free=>Zn
 | _=>Zv
def AC:AV->List Nat
 | .row k=>[k]
 | .ptr k _=>[k]
 | .kj k .. => [k]
 | .bN k _=>[k]
 | .rD k _=>[k]
 | .pre k _=>[k]
 | .FX k _=>[k]
 | .Cv _ fs cs=>fs.map (·.1)++cs.map (·.1)
 | .mp k=>[k]
 | .bK k .. => [k]
 | _=>[]
def NI:AV->List Nat
 | .agg cs=>cs.flatMap AC
 | v=>AC v
def wR:bH->List Nat
 | .cells cs=>cs.flatMap AC
 | _=>[]
def reach(st:Nat->bH):Nat->List Nat->List Nat
 | 0,ks=>ks
 | m+1,ks=>ks++reach st m (ks.flatMap fun k=>wR (st k))
theorem wv{s s2:Nat->bH}:∀ {m:Nat} {ks:List Nat},(∀ x∈reach s m ks,s2 x=s x)->reach s2 m ks=reach s m ks
 | 0,ks,h=>rfl
 | m+1,ks,h=>by
  simp only[reach,List.mem_append] at h ⊢;have e:(ks.flatMap fun k=>wR (s2 k))=ks.flatMap fun k=>wR (s k):=by
   have:∀ l:List Nat,(∀ x∈l,s2 x=s x)->(l.flatMap fun k=>wR (s2 k))=l.flatMap fun k=>wR (s k):=by
    intro l;induction l with
    | nil=>intro _;rfl
    | cons y l ih =>
     intro hl;rw[Zg,Zg,hl y (by simp),ih fun x hx=>hl x (by simp[hx])]
   exact this ks fun x hx=>h x (.inl hx)
  rw[e,wv fun x hx=>h x (.inr hx)]
def fk(kb t:Nat):Nat:=match kb with
 | 0=>(t+1)*100000
 | m+1=>(m+1+t+1)*100000
def Lf:Nat->List Nat->Nat
 | b,[]=>b
 | b,[d]=>b+d
 | b,p::r=>Lf (fk b p) r
def rz(kb:Nat):List jz->List Nat
 | []=>[]
 | .bN t m ds::r=>(match m with
  | 0=>ds.map (fk kb t + ·)
  | 1=>[Lf (fk kb t) ds]
  | _=>(kb+t)::ds.map (kb + ·))++rz kb r
 | .ptr t u d::r=>(fk (fk kb t) u+d)::rz kb r
 | .val d _::r=>d::rz kb r
 | _::r=>rz kb r
def jD(st:Nat->bH)(vs:List AV)(kb:Nat)(hs:List jz):List Nat:=reach st 3 (vs.flatMap NI)++rz kb hs
def K3(c:CT)(v:AV):Bool:=match c,v with
 | .bool,.bool _=>Zn
 | .int k,.int k' _=>k==k'
 | _,_=>Zv
def Bb(c:CT)(v:AV)(fp:FP)(A:List Nat)(st:Nat->bH):Bool:=K3 c v&&fp.rd.all (fun x=>A.contains x)&&fp.wr.all fun x=>A.contains x&&E0 (st x)
def Dx{α:Type}(run:F0)(c:CT)(hs:List jz)(kb:Nat)(vs:List AV)(st:Nat->bH)(k:lO α):Option α :=
 (run.run (List AV) kb vs st fun v _ fp=>aD (Bb c v fp (jD st vs kb hs) st) (Zz [v])).bind fun l =>
  aA l fun v r=>ak r (gD c v fun v'=>k v' st ⟨jD st vs kb hs,[]⟩)
def AA{α:Type}(h:List jz)(run:F0)(kb:Nat)(vs:List AV)(st:Nat->bH)(k:lO α):Option α :=
 match h with
 | .cells _ [c]::hs=>Dx run c hs kb vs st k
 | _=>run.run α kb vs st k
section
variable {α:Type} (E:Env) (rts:Nat->Option (List Nat))
def Gv(fr:Fr)(i:TI)(v:AV)(k:lO α):Option α :=
 match i.kind with
 | .str=>v.fB fun l=>k (.int .i64 l.length) fr.st .none
 | .slice _ _=>lenOf fr.st v fun n fp=>k (.int .i64 n) fr.st fp
 | _=>none
def EC(i:TI)(op:BinOp)(a b:AV):Option AV :=
 match a with
 | .agg cs=>match i.U0 with
  | []=>none
  | c::r=>bif eO (c::r) cs&&da i.kind then ny op a b else none
 | .bool _=>match i.kind with
  | .bool=>ny op a b
  | _=>none
 | .undef=>none
 | .aQ _=>none
 | a=>ny op a b
def ED(i:TI)(op:BinOp)(a b:AV):Option (Bool×AV) :=
 match a with
 | .agg cs=>match i.U0 with
  | []=>none
  | c::r=>bif eO (c::r) cs&&da i.kind then AF op a b else none
 | .bool _=>match i.kind with
  | .bool=>AF op a b
  | _=>none
 | .undef=>none
 | .aQ _=>none
 | a=>AF op a b
def wY(i:TI)(fr:Fr)(parts:List (Nat×AV))(k:lO α):Option α :=
 match i.kind with
 | .struct fs=>match fill (fun j=>(fs[j]?).bind fun f=>(E.ty f.2).map fun fi=>(f.1,fi.size)) parts i.zero with
  | some cs=>k (.agg cs) fr.st .none
  | none=>none
 | _=>none
def Cu(d:Option Nat):Bool :=
 match d with
 | some t=>match E.jf (1000000+t) with
  | []=>Zv
  | _::_=>Zn
 | none=>Zv
def Ev(f:Nat):List Nat:=(E.jf (7000000+f)).filterMap fun | .val _ ty=>Zz ty | _=>none
def tK(fr:Fr)(o:Oper)(k:lO α):Option α :=
 match o.op with
 | .move x=>(cT E fr x).bind fun v=>k v fr.st .none
 | .assign x=>(cT E fr x).bind fun v=>k v fr.st .none
 | .pick c a b=>(cT E fr c).bind fun v=>v.dD fun t=>aG t ((cT E fr a).bind fun v=>k v fr.st .none) ((cT E fr b).bind fun v=>k v fr.st .none)
 | .alloc e=>(E.ty e).bind fun i=>match o.dst with
  | some t=>match i.kind with
   | .c4 _ _ Zn=>(QZ i.zero).bind fun l=>iJ fr (E.kb+t) (.jm l Zv) (.ptr (E.kb+t) 0) k
   | _=>iJ fr (E.kb+t) (.cells i.zero) (.ptr (E.kb+t) 0) k
  | none=>none
 | .box e x=>(E.ty e).bind fun i=>(cT E fr x).bind fun v=>match o.dst with
  | some t=>bif v.cells.length==i.size&&v.cells.all AV.ea then iJ fr (E.kb+t) (.cells v.cells) (.ptr (E.kb+t) 0) k else none
  | none=>none
 | .build t parts=>(E.ty t).bind fun i=>(ic E fr parts.toList).bind fun ps=>wY E i fr ps k
 | .buildSlice t len parts=>(E.ty t).bind fun i=>(ic E fr parts.toList).bind fun ps=>match Cu E o.dst,o.dst with
  | true,Zz d=>pB E fr (E.kb+d) i len ps k
  | _,_=>mF E fr i len ps k
 | .makeSlice t l c=>(E.ty t).bind fun i=>(cT E fr l).bind fun n=>(cT E fr c).bind fun m=>match o.dst with
  | some d=>AG fr (E.kb+d) i n m k
  | none=>none
 | .load t a=>(E.ty t).bind fun i=>(cT E fr a).bind fun v=>kh E fr i v k
 | .store t a x=>(E.ty t).bind fun i=>(cT E fr a).bind fun p=>(cT E fr x).bind fun v=>nZ E fr i p v k
 | .nilCheck x=>(cT E fr x).bind fun v=>match v with
  | .ptr a b=>k (.ptr a b) fr.st .none
  | .kG l=>k (.kG l) fr.st .none
  | .kj a b c d=>k (.kj a b c d) fr.st .none
  | _=>none
 | .binOp op t x y _=>(E.ty t).bind fun i=>(cT E fr x).bind fun a=>(cT E fr y).bind fun b=>(ED i op a b).bind fun x=>aD x.1 (k x.2 fr.st .none)
 | .unOp op _ x=>(cT E fr x).bind fun a=>(Ti op a).bind fun v=>k v fr.st .none
 | .convert s d x=>(E.ty s).bind fun si=>(E.ty d).bind fun di=>(cT E fr x).bind fun v=>qV fr si di v k
 | .slice t x lo hi mx=>(E.ty t).bind fun i=>(cT E fr x).bind fun v =>
   match lo.map (cT E fr),hi.map (cT E fr),mx.map (cT E fr) with
   | some none,_,_=>none
   | _,Zz none,_=>none
   | _,_,Zz none=>none
   | a,Zz (Zz b),Zz (Zz m)=>tL E fr i v (a.bind id) b m k
   | _,none,Zz (Zz _)=>none
   | a,b,none=>match Cu E o.dst with
    | true=>tM fr i v (a.bind id) (b.bind id) k
    | false=>uR E fr i v (a.bind id) (b.bind id) none k
 | .fieldAddr t x f=>(E.ty t).bind fun i=>(rX i f).bind fun p=>(cT E fr x).bind fun v=>oh fr p.1 v k
 | .field t x f=>(E.ty t).bind fun i=>(rX i f).bind fun p=>(E.ty p.2).bind fun fi=>(cT E fr x).bind fun v=>v.cV fun cs=>loadCells fi (cs.drop p.1) fun v=>k v fr.st .none
 | .indexAddr t x ix=>(E.ty t).bind fun i=>(cT E fr x).bind fun v=>(cT E fr ix).bind fun n=>fw E fr i v n k
 | .index t x ix=>(E.ty t).bind fun i=>(cT E fr x).bind fun v=>(cT E fr ix).bind fun n=>wZ fr i v n k
 | .makeFunc fn fs cs=>match fn with
  | .func f=>(gy E fr fs.toList).bind fun a=>(gy E fr cs.toList).bind fun b=>(Pg a).bind fun pa=>(Pg b).bind fun pb=>k (.Cv f pa pb) fr.st .none
  | _=>none
 | .makeMap t r=>match r,o.dst with
  | none,Zz d=>(E.ty t).bind fun i=>match i.kind with
   | .map kt _=>(E.ty kt).bind fun ki=>qW fr (E.kb+d) ki k
   | _=>none
  | _,_=>none
 | .lookup t x q ok=>(E.ty t).bind fun i=>match i.kind with
  | .map kt et=>(E.ty kt).bind fun ki=>(E.ty et).bind fun ei=>(cT E fr x).bind fun m=>(cT E fr q).bind fun v=>pC fr ki ei m v ok k
  | _=>none
 | .mapUpdate t x q y=>(E.ty t).bind fun i=>match i.kind with
  | .map kt et=>(E.ty kt).bind fun ki=>(E.ty et).bind fun ei=>(cT E fr x).bind fun m=>(cT E fr q).bind fun v=>(cT E fr y).bind fun z=>qX fr ki ei m v z k
  | _=>none
 | .extract x j=>(cT E fr x).bind fun v=>v.gT fun vs=>match vs[j]? with
  | some v=>k v fr.st .none
  | none=>none
 | .call c=>match c.callee with
  | .builtin .len=>(gy E fr c.args.toList).bind fun vs=>match vs,c.argTypes.toList with
   | [v],[ty]=>(E.ty ty).bind fun i=>Gv fr i v k
   | _,_=>none
  | .builtin .append=>(gy E fr c.args.toList).bind fun vs=>match vs,c.argTypes.toList,o.dst with
   | [s,x],[ty,tx],Zz t=>(E.ty ty).bind fun i=>(E.ty tx).bind fun xi=>match xi.kind with
    | .slice _ _=>kg E fr (E.kb+t) i s x k
    | .str=>kg E fr (E.kb+t) i s x k
    | _=>none
   | _,_,_=>none
  | .builtin .min=>(gy E fr c.args.toList).bind fun vs=>(O4 Zv vs).bind fun v=>k v fr.st .none
  | .builtin .max=>(gy E fr c.args.toList).bind fun vs=>(O4 Zn vs).bind fun v=>k v fr.st .none
  | .value (.func f)=>(gy E fr c.args.toList).bind fun vs=>match o.dst with
   | some t=>match E.inl f with
    | some run=>AA (E.jf (8000000+f)) run (fk E.kb t) vs fr.st k
    | none=>tJ E fr rts (E.kb+t) f c.argTypes.toList vs k
   | none=>none
  | .value (.tmp s)=>(cT E fr (.tmp s)).bind fun v=>v.Ld fun f fs cs=>(gy E fr c.args.toList).bind fun vs=>match o.dst with
   | some t=>match E.inl f with
    | some run=>AA (E.jf (8000000+f)) run (fk E.kb t) (lT fs++vs++lT cs) fr.st k
    | none=>tJ E fr rts (E.kb+t) f ((Ev E f).take fs.length++c.argTypes.toList++(Ev E f).drop fs.length) (lT fs++vs++lT cs) k
   | none=>none
  | _=>none
 | _=>none
def dO(fr:Fr)(n:Nat)(d:Option Nat)(v:AV)(st:Nat->bH)(k:Fr->Option α):Option α :=
 match d with
 | some t=>bif Zk t n then k ⟨cQ fr.aS t v,st⟩ else none
 | none=>k ⟨fr.aS,st⟩
def l7(ops:List Oper)(j:Nat):Option Nat:=(ops[j]?).bind (·.dst)
def fy(n:Nat)(all:List Oper):List Oper->Fr->(Fr->List FP->Option α)->Option α
 | [],fr,k=>k fr []
 | o::os,fr,k =>
  match o.guard with
  | none=>tK E rts fr o fun v st fp=>dO fr n o.dst v st fun bI=>fy n all os bI fun dX mH=>k dX (fp::mH)
  | some (j,want)=>match l7 all j with
   | none=>none
   | some g=>(fr.aS g).oV (fun b =>
    aG b
     (match want with
      | true=>tK E rts ⟨cQ fr.aS g (.bool Zn),fr.st⟩ o fun v st fp=>dO ⟨cQ fr.aS g (.bool Zn),fr.st⟩ n o.dst v st fun bI=>fy n all os bI fun dX mH=>k dX (fp::mH)
      | false=>dO ⟨cQ fr.aS g (.bool Zn),fr.st⟩ n o.dst (.aQ []) fr.st fun bI=>fy n all os bI fun dX mH=>k dX (.none::mH))
     (match want with
      | false=>tK E rts ⟨cQ fr.aS g (.bool Zv),fr.st⟩ o fun v st fp=>dO ⟨cQ fr.aS g (.bool Zv),fr.st⟩ n o.dst v st fun bI=>fy n all os bI fun dX mH=>k dX (fp::mH)
      | true=>dO ⟨cQ fr.aS g (.bool Zv),fr.st⟩ n o.dst (.aQ []) fr.st fun bI=>fy n all os bI fun dX mH=>k dX (.none::mH)))
    (dO fr n o.dst (.aQ []) fr.st fun bI=>fy n all os bI fun dX mH=>k dX (.none::mH))
def ins(l:List Nat)(i:Nat):List Nat:=bif l.contains i then l else i::l
def z8(ops:List Oper):List (List Nat) :=
 ops.foldl (fun acc o=>acc++[o.after.toList.foldl (fun l e=>if Region.binds .any e then ins (((acc[e.on]?).getD []).foldl ins l) e.on else l) []]) []
def FP.apart(a b:FP):Bool:=a.wr.all (fun x => !b.rd.contains x && !b.wr.contains x)&&b.wr.all (fun x => !a.rd.contains x)
def slotsOf(o:Oper):List Nat:=o.op.operands.toList.filterMap fun | .tmp t=>Zz t | _=>none
def looks(ops:List Oper)(o:Oper):List Nat :=
 slotsOf o++(match o.guard with | some (g,_)=>(l7 ops g).toList | none=>[])
def yC(ops:List Oper)(x y:Oper):Bool :=
 (match x.dst with | some d => !(looks ops y).contains d&&y.dst != Zz d | none=>Zn) &&
 (match y.dst with | some d => !(looks ops x).contains d | none=>Zn)
def Du(ops:List Oper)(bs:List (List Nat))(mH:List FP)(j:Nat)(oj:Oper)(fj:FP):Bool :=
 (List.range j).all fun i=>((bs[j]?).getD []).contains i||(match ops[i]?,mH[i]? with
  | some oi,Zz fi=>yC ops oi oj&&fi.apart fj
  | _,_=>Zv)
def VD(ops:List Oper):Bool:=(List.range ops.length).all fun j=>match ops[j]? with
 | some o=>o.after.toList.all fun e => !Region.binds .any e||Zk e.on j
 | none=>Zv
def indep(ops:List Oper)(mH:List FP):Bool :=
 let bs:=z8 ops
 VD ops&&(List.range ops.length).all fun j=>match ops[j]?,mH[j]? with
  | some oj,Zz fj=>Du ops bs mH j oj fj
  | _,_=>Zv
inductive Ex where
 | normal | ret | exit (id:Nat)
def Ex.Sa{ρ:Type}(e:Ex)(a:ρ)(k:Ex->ρ):ρ:=match e with | .normal=>a | .ret=>k .ret | .exit j=>k (.exit j)
def Ex.vN{ρ:Type}(id:Nat)(e:Ex)(k:Ex->ρ):ρ:=match e with | .normal=>k .normal | .ret=>k .ret | .exit j=>bif Zy j id then k .normal else k (.exit j)
def Ex.SI{ρ:Type}(e:Ex)(a:Option ρ):Option ρ:=match e with | .normal=>a | .ret=>none | .exit _=>none
def Ex.Tj{ρ:Type}(e:Ex)(a b:ρ):ρ:=match e with | .normal=>a | .ret=>a | .exit _=>b
def Ex.pM{σ:Type}(e:Ex)(s:σ):σ ⊕ (Ex×σ):=match e with | .normal => .inl s | .ret => .inr (.ret,s) | .exit j => .inr (.exit j,s)
def Df:List Nat->List Nat
 | []=>[]
 | x::r=>bif (Df r).contains x then Df r else x::Df r
def outs:Code->List Nat
 | .seq a b=>outs a++outs b
 | .cond _ a b=>outs a++outs b
 | .block id a=>(outs a).filter fun j => !Zy j id
 | .loop a=>outs a
 | .exit id=>[id]
 | _=>[]
def jW{ρ:Type}(e:Ex)(a:Option ρ)(f:Nat->Option ρ):Option ρ:=match e with | .normal=>none | .ret=>a | .exit j=>f j
def u3{ρ:Type}:List Nat->Nat->(Ex->Option ρ)->Option ρ
 | [],_,_=>none
 | i::is,j,k=>aG (Zy j i) (k (.exit i)) (u3 is j k)
def Ex.out{ρ:Type}(ids:List Nat)(e:Ex)(k:Ex->Option ρ):Option ρ:=jW e (k .ret) fun j=>u3 ids j k
theorem Ex.Al{ρ:Type}{ids:List Nat}{e:Ex}{k:Ex->Option ρ}{r:ρ}(h:Ex.out ids e k=Zz r):k e=Zz r:=by
 unfold Ex.out jW at h;cases e with
 | normal=>cases h
 | ret=>exact h
 | exit j =>
  simp only at h;induction ids with
  | nil=>cases h
  | cons i is ih =>
   simp only[u3,aG] at h;cases hb:Zy j i with
   | false=>rw[hb] at h;exact ih h
   | true=>rw[hb] at h;rw[Zx hb];exact h
def dB:Code->Nat
 | .region id _ _=>id
 | .seq a _=>dB a
 | .block _ a=>dB a
 | .loop a=>dB a
 | .scope a=>dB a
 | _=>0
def oW(st:Nat->bH)(L:List Nat)(e z:Nat)(byte:Bool)(v:AV)(k:AV->List Nat->Option α):Option α :=
 match byte with
 | true=>match v with
  | .dc=>k (.bS []) L
  | .row r=>match st r with
   | .fb e' l Zv=>aD (Zy e e' && !L.contains r) (k (.bS l) (r::L))
   | _=>none
  | _=>none
 | false=>match v with
  | .dc=>aD (Zk 0 z) (k (.aI []) L)
  | .row r=>match st r with
   | .dz e' z' l Zv=>aD (Zy e e'&&Zy z z' && !L.contains r) (k (.aI l) (r::L))
   | _=>none
  | _=>none
def Ah(st:Nat->bH)(L:List Nat)(s:Bool)(kd:IntKind)(v:AV)(k:AV->List Nat->Option α):Option α :=
 match v with
 | .mp r=>match st r with
  | .ou s' kd' els=>aD ((s==s')&&(kd==kd') && !L.contains r) (k (.aI els) (r::L))
  | _=>none
 | _=>none
def dk:List KC->List AV->(Nat->bH)->List Nat->(List AV->(Nat->bH)->List Nat->FP->Option α)->Option α
 | [],[],st,L,k=>k [] st L .none
 | .l_ c::cs,v::vs,st,L,k=>Bx c v st fun a cH fp=>aD (fp.wr.all fun x => !L.contains x) (dk cs vs cH L fun l cf L2 f2=>k (a::l) cf L2 (fp.add f2))
 | .own _ e z b::cs,v::vs,st,L,k=>oW st L e z b v fun a L1=>dk cs vs st L1 fun l cf L2 f2=>k (a::l) cf L2 f2
 | .so _ s kd::cs,v::vs,st,L,k=>Ah st L s kd v fun a L1=>dk cs vs st L1 fun l cf L2 f2=>k (a::l) cf L2 f2
 | _,_,_,_,_=>none
def cK(sl:Nat->AV)(st:Nat->bH)(L:List Nat)(h:jz)(k:List AV->(Nat->bH)->List Nat->FP->Option α):Option α :=
 match h with
 | .val s ty=>(E.ty ty).bind fun i=>out i (sl s) st fun v cH fp=>aD (fp.wr.all fun x => !L.contains x) (match da i.kind with
  | true=>k v.cells cH L fp
  | false=>k [v] cH L fp)
 | .fb s e p=>match sl s with
  | .dc=>k [.bS []] st L .none
  | .row r=>match st r with
   | .fb e' l q=>aD (Zy e e'&&(p || !q) && !L.contains r) (k [.bS l] st (r::L) .none)
   | _=>none
  | _=>none
 | .dz s e z p=>match sl s with
  | .dc=>aD (Zk 0 z) (k [.aI []] st L .none)
  | .row r=>match st r with
   | .dz e' z' l q=>aD (Zy e e'&&Zy z z'&&(p || !q) && !L.contains r) (k [.aI l] st (r::L) .none)
   | _=>none
  | _=>none
 | .ptr s b off=>match sl s with
  | .ptr b' Mu=>aD (Zy b b'&&Zy off Mu) (k [] st L .none)
  | _=>none
 | .bN s b iF=>match sl s with
  | .bN b' Hq=>aD (Zy b b'&&iF==Hq) (k [] st L .none)
  | _=>none
 | .cells b hO=>match st b with
  | .cells cs=>nB hO cs st fun l cH fp=>aD ((fp.wr.all fun x => !L.contains x) && !L.contains b) (k l cH (b::L) fp)
  | _=>none
 | .jm b p=>match st b with
  | .jm l q=>aD ((p || !q) && !L.contains b) (k [.bs l] st (b::L) .none)
  | _=>none
 | .lg b sQ=>match st b with
  | .cells cs=>dk sQ cs st L fun l cH L1 f1=>aD (!L1.contains b) (k l cH (b::L1) f1)
  | _=>none
 | .rowAt b h e z=>match h with
  | true=>match st b with
   | .iW e' z' l=>aD (Zy e e'&&Zy z z' && !L.contains b) (k [.aI l] st (b::L) .none)
   | _=>none
  | false=>match st b with
   | .dz e' z' l q=>aD (Zy e e'&&Zy z z' && !q && !L.contains b) (k [.aI l] st (b::L) .none)
   | _=>none
 | .hZ s b e z=>match sl s with
  | .bK b' e' z'=>aD (Zy b b'&&Zy e e'&&Zy z z') (k [] st L .none)
  | _=>none
def ef(sl:Nat->AV):List jz->(Nat->bH)->List Nat->(List AV->(Nat->bH)->List Nat->FP->Option α)->Option α
 | [],st,L,k=>k [] st L .none
 | h::hs,st,L,k=>cK E sl st L h fun l cH L1 f1=>ef sl hs cH L1 fun r cf L2 f2=>k (l++r) cf L2 (f1.add f2)
def collect(fr:Fr)(hs:List jz)(k:List AV->Option α):Option α:=ef E fr.aS hs fr.st [] fun l _ _ _=>k l
def nV:List CT->List AV->(List AV->List AV->Option α)->Option α
 | [],l,k=>k [] l
 | c::cs,l,k=>aA l fun x r=>gD c x fun x'=>nV cs r fun a b=>k (x'::a) b
def fresh(st:Nat->bH)(b:Nat)(k:Option α):Option α:=match st b with
 | .free=>k
 | _=>none
def nF(st:Nat->bH)(b:Nat)(k:Option α):Option α:=match st b with
 | .free=>k
 | .dead=>k
 | _=>none
def c8:List KC->List AV->Fr->(List AV->List AV->Fr->Option α)->Option α
 | [],l,fr,k=>k [] l fr
 | .l_ c::cs,l,fr,k=>aA l fun x r=>gD c x fun x'=>c8 cs r fr fun a b dX=>k (x'::a) b dX
 | .own t e z b::cs,l,fr,k=>aA l fun x r=>match b with
  | true=>x.fA fun y=>fresh fr.st t (c8 cs r ⟨fr.aS,cQ fr.st t (.fb e y Zv)⟩ fun a b dX=>k (.row t::a) b dX)
  | false=>x.aW fun y=>fresh fr.st t (c8 cs r ⟨fr.aS,cQ fr.st t (.dz e z y Zv)⟩ fun a b dX=>k (.row t::a) b dX)
 | .so t s kd::cs,l,fr,k=>aA l fun x r=>x.aW fun y=>fresh fr.st t (c8 cs r ⟨fr.aS,cQ fr.st t (.ou s kd y)⟩ fun a b dX=>k (.mp t::a) b dX)
def restore:List jz->List AV->Fr->(Fr->Option α)->Option α
 | [],l,fr,k=>ak l (k fr)
 | h::hs,l,fr,k =>
  match h with
  | .val s ty=>(E.ty ty).bind fun i=>match da i.kind with
   | true=>nV i.hO l fun cs r=>restore hs r ⟨cQ fr.aS s (.agg cs),fr.st⟩ k
   | false=>match i.hO with
    | [c]=>aA l fun x r=>gD c x fun x'=>restore hs r ⟨cQ fr.aS s x',fr.st⟩ k
    | _=>none
  | .fb s e p=>aA l fun x r=>x.fA fun b=>fresh fr.st (8192+s) (restore hs r ⟨cQ fr.aS s (.row (8192+s)),cQ fr.st (8192+s) (.fb e b p)⟩ k)
  | .dz s e z p=>aA l fun x r=>x.aW fun b=>fresh fr.st (8192+s) (restore hs r ⟨cQ fr.aS s (.row (8192+s)),cQ fr.st (8192+s) (.dz e z b p)⟩ k)
  | .ptr s b off=>match fr.st b with
   | .cells _=>restore hs l ⟨cQ fr.aS s (.ptr b off),fr.st⟩ k
   | .jm _ _=>restore hs l ⟨cQ fr.aS s (.ptr b off),fr.st⟩ k
   | _=>none
  | .bN s b iF=>match fr.st b with
   | .cells _=>restore hs l ⟨cQ fr.aS s (.bN b iF),fr.st⟩ k
   | _=>none
  | .cells b hO=>nV hO l fun cs r=>nF fr.st b (restore hs r ⟨fr.aS,cQ fr.st b (.cells cs)⟩ k)
  | .jm b p=>aA l fun x r=>x.dm fun c=>nF fr.st b (restore hs r ⟨fr.aS,cQ fr.st b (.jm c p)⟩ k)
  | .lg b sQ=>c8 sQ l fr fun cs r dX=>nF dX.st b (restore hs r ⟨dX.aS,cQ dX.st b (.cells cs)⟩ k)
  | .rowAt b h e z=>aA l fun x r=>x.aW fun y=>nF fr.st b (match h with
   | true=>restore hs r ⟨fr.aS,cQ fr.st b (.iW e z y)⟩ k
   | false=>restore hs r ⟨fr.aS,cQ fr.st b (.dz e z y Zv)⟩ k)
  | .hZ s b e z=>match fr.st b with
   | .iW .. => restore hs l ⟨cQ fr.aS s (.bK b e z),fr.st⟩ k
   | _=>none
def pq:Fr:=⟨fun _ => .undef,fun k=>bif E.hand.contains k then .dead else .free⟩
end
noncomputable def exec(E:Env)(rts:Nat->Option (List Nat))(n:Nat):Code->(α:Type)->Fr->(Ex->Fr->Option α)->Option α
 | .skip,_,fr,k=>k .normal fr
 | .label _,_,fr,k=>k .normal fr
 | .region id ops draw,_,fr,k=>match E.jf (2000000+id) with
  | []=>fy E rts n ops.toList ops.toList fr fun bI mH=>aD (!draw||indep ops.toList mH) (k .normal bI)
  | h::hs=>(fy E rts n ops.toList ops.toList fr fun bI mH=>aD (!draw||indep ops.toList mH) (collect E bI (h::hs) Zz)).bind fun l=>restore E (h::hs) l (pq E) fun bI=>k .normal bI
 | .seq a b,α,fr,k=>exec E rts n a α fr fun e bI=>e.Sa (exec E rts n b α bI k) fun e=>k e bI
 | .cond c a b,α,fr,k=>match E.jf (3000000+dB a) with
  | []=>(cT E fr c).bind fun v=>v.dD fun t=>aG t (exec E rts n a α fr k) (exec E rts n b α fr k)
  | h::hs=>((cT E fr c).bind fun v=>v.dD fun t=>aG t (exec E rts n a (List AV) fr fun e bI=>e.SI (collect E bI (h::hs) Zz)) (exec E rts n b (List AV) fr fun e bI=>e.SI (collect E bI (h::hs) Zz))).bind fun l=>restore E (h::hs) l (pq E) fun bI=>k .normal bI
 | .block id a,α,fr,k=>exec E rts n a α fr fun e bI=>e.vN id fun e=>k e bI
 | .loop a,_,fr,k =>
  collect E fr (E.jf (dB a)) fun Np =>
   (bJ (fun st=>restore E (E.jf (dB a)) st (pq E) fun Sr=>exec E rts n a (List AV ⊕ (Ex×List AV)) Sr fun e bI =>
     collect E bI (E.jf (dB a)) fun st'=>Zz (e.pM st')) Np).bind fun r=>restore E (E.jf (dB a)) r.2 (pq E) fun bI=>Ex.out (Df (outs a)) r.1 fun e=>k e bI
 | .exit id,_,fr,k=>k (.exit id) fr
 | .ret,_,fr,k=>k .ret fr
 | _,_,_,_=>none
def hF(args:List AV)(j:Nat):Option (Nat×Nat):=match args[j]? with
 | some (.bK _ e z)=>Zz (e,z)
 | _=>none
def EP(q:Option (Nat×Nat))(cs:List AV):bH:=match q with
 | some q => .iW q.1 q.2 cs
 | none => .cells cs
def Sv:Nat->List AV->Bool
 | _,[]=>Zn
 | j,a::r=>(match a with | .bK k _ _=>Zy k j | .ptr k _=>Zy k j | _=>Zn)&&Sv (j+1) r
def entry:Nat->List AV->List (Nat×List AV)->Fr
 | _,args,cJ=>⟨fun i=>(args[i]?).getD .undef,fun b=>match cJ.find? (fun x=>Zy x.1 b) with | some x=>EP (hF args b) x.2 | none => .free⟩
section
variable {α:Type} (E:Env)
def N0(fs:List (Nat×Nat))(i:TI)(st:Nat->bH)(L:List Nat)(v:AV)(k:AV->(Nat->bH)->List Nat->Option α):Option α :=
 match PC E.ty fs with
 | some (j,e,ei)=>match v with
  | .agg cs=>match cs[j]? with
   | some (.row r)=>match st r with
    | .dz e' z l Zv=>aD (Zy e e'&&Zy z ei.size && !L.contains r) (nB (i.hO.set j .bool) (cs.set j (.bool Zv)) st fun a cH fp=>aD (fp.wr.all fun x => !(r::L).contains x) (k (.agg (a.set j (.aI l))) cH (r::L)))
    | _=>none
   | _=>none
  | _=>none
 | none=>out i v st fun a cH fp=>aD (fp.wr.all fun x => !L.contains x) (k a cH L)
def FA(i:TI)(st:Nat->bH)(L:List Nat)(own:Bool)(v:AV)(k:AV->(Nat->bH)->List Nat->Option α):Option α :=
 match own with
 | false=>out i v st fun a cH fp=>aD (fp.wr.all fun x => !L.contains x) (k a cH L)
 | true=>match i.kind with
  | .slice e Zn=>match v with
   | .dc=>k (.bS []) st L
   | .row r=>match st r with
    | .fb e' l Zv=>aD (Zy e e' && !L.contains r) (k (.bS l) st (r::L))
    | _=>none
   | _=>none
  | .slice e Zv=>match E.ty e with
   | none=>none
   | some ei=>match v with
    | .dc=>aD (Zk 0 ei.size) (k (.aI []) st L)
    | .row r=>match st r with
     | .dz e' z l Zv=>aD (Zy e e'&&Zy z ei.size && !L.contains r) (k (.aI l) st (r::L))
     | _=>none
    | _=>none
  | .struct fs=>N0 E fs i st L v k
  | _=>out i v st fun a cH fp=>aD (fp.wr.all fun x => !L.contains x) (k a cH L)
def J1(sl:Nat->AV)(st:Nat->bH)(L:List Nat)(r:ResultVar)(ty:Nat)(own:Bool)(k:AV->(Nat->bH)->List Nat->Option α):Option α :=
 (E.ty ty).bind fun i=>match r with
  | .tmp t=>FA E i st L own (sl t) k
  | .cell a t=>(E.ty t).bind fun ti=>kh E ⟨sl,st⟩ ti (sl a) fun v _ _=>FA E i st L own v k
def uq(sl:Nat->AV):List ResultVar->List Nat->(Nat->bH)->List Nat->Bool->(List AV->(Nat->bH)->List Nat->Option α)->Option α
 | [],[],st,L,_,k=>k [] st L
 | r::rs,ty::kN,st,L,own,k=>J1 E sl st L r ty own fun v cH L1=>uq sl rs kN cH L1 Zv fun l cf L2=>k (v::l) cf L2
 | _,_,_,_,_,_=>none
def qu(as:List AV):List (Nat×List AV)->List Nat->(Nat->bH)->List Nat->(aw->Option α)->Option α
 | [],_,_,_,k=>k []
 | (b,_)::r,kN,st,L,k=>match st b,(kN[b]?).bind E.ty with
  | .cells cs,Zz { kind := .ptr e,.. }=>(E.ty e).bind fun ei=>nB ei.hO cs st fun l cH fp=>aD (fp.wr.all fun x => !L.contains x) (qu as r kN cH L fun bs=>k (l::bs))
  | .iW e z els,_=>match hF as b with
   | some q=>aD (Zy e q.1&&Zy z q.2) (qu as r kN st L fun bs=>k (els::bs))
   | none=>none
  | _,_=>none
end
noncomputable def dT(E:Env)(rts:Nat->Option (List Nat))(own:Bool)(fn:Func)(args:List AV)(cJ:List (Nat×List AV))(hand:List Nat):Option (AV×aw) :=
 match fn.body with
 | none=>none
 | some c=>aD (Zh args.length fn.ntmps&&Sv 0 args) (exec { E with hand:=hand } rts fn.ntmps c (AV×aw) (entry 0 args cJ) fun e fr=>e.Tj (uq E fr.aS fn.results.toList fn.resultTypes.toList fr.st [] own fun vs st L=>qu E args cJ fn.params.toList st L fun bs =>
   match vs with
   | [v]=>Zz (v,bs)
   | vs=>Zz (.aQ vs,bs)) none)
noncomputable def HM(E:Env)(rts:Nat->Option (List Nat))(own:Bool)(fn:Func)(args:List AV)(cJ:List (Nat×List AV)):Option (AV×aw):=dT E rts own fn args cJ (cJ.map (·.1))
end Go.Abs
/- What follows from an eliminator's having a result. -/
namespace Go.Abs
theorem mf{α:Type}{c:CT}{v:AV}{k:AV->Option α}{r:α}(h:gD c v k=Zz r):k v=Zz r:=by
 unfold gD at h;split at h
 ·rename_i kd;unfold AV.ax at h;split at h
  ·rename_i _ k' n;cases he:(k'==kd) with
   | false=>rw[he] at h;cases h
   | true =>
    have:k'=kd:=by simpa using he
    subst this;rw[he] at h;exact h
  ·cases h
 ·unfold AV.pO at h;split at h<;>first | exact h | cases h
 ·unfold AV.dD at h;split at h<;>first | exact h | cases h
 ·unfold AV.fB at h;split at h<;>first | exact h | cases h
 ·unfold AV.dm at h;split at h<;>first | exact h | cases h
 ·rename_i z;unfold AV.fR at h;split at h
  ·rename_i _ z' l;cases he:Zy z' z with
   | false=>rw[he] at h;cases h
   | true =>
    have:=Zx he;subst this;rw[he] at h;exact h
  ·cases h
 ·cases h
theorem gK{α:Type}{l:List AV}{f:AV->List AV->Option α}{r:α}(h:aA l f=Zz r):∃ x t,l=x::t/\f x t=Zz r:=by
 unfold aA at h;split at h
 ·exact⟨_,_,rfl,h⟩
 ·cases h
theorem nP{α:Type}{l:List AV}{f:Option α}{r:α}(h:ak l f=Zz r):l=[]/\f=Zz r:=by
 unfold ak at h;split at h
 ·exact⟨rfl,h⟩
 ·cases h
theorem wj{α:Type}:∀ {cs:List CT} {l:List AV} {k:List AV->Option α} {r:α},nN cs l k=Zz r->k l=Zz r
 | [],l,k,r,h=>by obtain⟨rfl,h⟩:=nP h;exact h
 | c::cs,l,k,r,h=>by
  simp only[nN] at h;obtain⟨x,t,rfl,h1⟩:=gK h;exact wj (k:=fun r'=>k (x::r')) (mf h1)
theorem uV{α:Type}{v:AV}{f:List AV->Option α}{r:α}(h:v.cV f=Zz r):∃ l,v = .agg l/\f l=Zz r:=by
 unfold AV.cV at h;split at h
 ·exact⟨_,rfl,h⟩
 ·cases h
theorem DO{α:Type}{v:AV}{f:List AV->Option α}{r:α}(h:v.gT f=Zz r):∃ l,v = .aQ l/\f l=Zz r:=by
 unfold AV.gT at h;split at h
 ·exact⟨_,rfl,h⟩
 ·cases h
theorem uW{α:Type}{v:AV}{f:List UInt8->Option α}{r:α}(h:v.fB f=Zz r):∃ l,v = .str l/\f l=Zz r:=by
 unfold AV.fB at h;split at h
 ·exact⟨_,rfl,h⟩
 ·cases h
theorem Bv{α:Type}{v:AV}{f:List UInt8->Option α}{r:α}(h:v.dm f=Zz r):∃ l,v = .bs l/\f l=Zz r:=by
 unfold AV.dm at h;split at h
 ·exact⟨_,rfl,h⟩
 ·cases h
theorem uf{α:Type}{v:AV}{f:Bool->Option α}{s:Option α}{r:α}(h:v.oV f s=Zz r):(∃ l,v = .bool l/\f l=Zz r)\/(v = .aQ []/\s=Zz r):=by
 unfold AV.oV at h;split at h
 ·exact .inl ⟨_,rfl,h⟩
 ·exact .inr ⟨rfl,h⟩
 ·cases h
theorem Mx{α:Type}{v:AV}{f:Nat->List (Nat×Nat)->List (Nat×Nat)->Option α}{r:α}(h:v.Ld f=Zz r):(∃ n,v = .fn n/\f n [] []=Zz r)\/∃ n a b,v = .Cv n a b/\f n a b=Zz r:=by
 unfold AV.Ld at h;split at h
 ·exact .inl ⟨_,rfl,h⟩
 ·exact .inr ⟨_,_,_,rfl,h⟩
 ·cases h
theorem sm{α:Type}{v:AV}{f:Bool->Option α}{r:α}(h:v.dD f=Zz r):∃ l,v = .bool l/\f l=Zz r:=by
 unfold AV.dD at h;split at h
 ·exact⟨_,rfl,h⟩
 ·cases h
theorem wk{α:Type}{v:AV}{f:List UInt8->Option α}{r:α}(h:v.fA f=Zz r):∃ l,v = .bS l/\f l=Zz r:=by
 unfold AV.fA at h;split at h
 ·exact⟨_,rfl,h⟩
 ·cases h
theorem pN{α:Type}{v:AV}{f:List AV->Option α}{r:α}(h:v.aW f=Zz r):∃ l,v = .aI l/\f l=Zz r:=by
 unfold AV.aW at h;split at h
 ·exact⟨_,rfl,h⟩
 ·cases h
theorem Hw{α:Type}{v:AV}{z:Nat}{f:List AV->Option α}{r:α}(h:v.fR z f=Zz r):∃ l,v = .sl z l/\f l=Zz r:=by
 unfold AV.fR at h;split at h
 ·rename_i z' l;cases he:Zy z' z with
  | false=>rw[he] at h;cases h
  | true =>
   have:=Zx he;subst this;rw[he] at h;exact⟨l,rfl,h⟩
 ·cases h
theorem jE{α:Type}{i:TI}{v:AV}{k:AV->Option α}{r:α}(h:norm i v k=Zz r):k v=Zz r:=by
 unfold norm at h;split at h
 ·obtain⟨l,rfl,h⟩:=uV h;exact wj h
 ·split at h
  ·exact mf h
  ·cases h
theorem aM{α:Type}{b:Bool}{f:Option α}{r:α}(h:aD b f=Zz r):b=Zn/\f=Zz r:=by
 cases b
 ·cases h
 ·exact⟨rfl,h⟩
theorem cM{α:Type}{b:Bool}{f:Option α}{r:α}(h:(bif b then f else none)=Zz r):b=Zn/\f=Zz r:=by
 cases b
 ·cases h
 ·exact⟨rfl,h⟩
theorem Bw{α:Type}{l:aw}{f:Option α}{r:α}(h:aE l f=Zz r):l=[]/\f=Zz r:=by
 unfold aE at h;split at h
 ·exact⟨rfl,h⟩
 ·cases h
theorem zH{α:Type}{l:aw}{f:List AV->aw->Option α}{r:α}(h:aB l f=Zz r):∃ x t,l=x::t/\f x t=Zz r:=by
 unfold aB at h;split at h
 ·exact⟨_,_,rfl,h⟩
 ·cases h
theorem Fg{α:Type}{o v:AV}{k:AV->Option α}{r:α}(h:xV o v k=Zz r):k v=Zz r/\∀ (β:Type) (k2:AV->Option β),xV o v k2=k2 v:=by
 cases o<;>simp only[xV] at h ⊢;case int kd n =>
  cases v<;>simp only[AV.ax] at h ⊢ <;> try (cases h;done)
  rename_i k' m;cases he:(k'==kd) with
  | false=>rw[he] at h;cases h
  | true =>
   have:k'=kd:=by simpa using he
   subst this;rw[he] at h;exact⟨h,fun _ _=>rfl⟩
 case u8 b=>cases v<;>simp only[AV.pO] at h ⊢ <;> first | (cases h;done) | exact⟨h,fun _ _=>trivial⟩
 case bool b=>cases v<;>simp only[AV.dD] at h ⊢ <;> first | (cases h;done) | exact⟨h,fun _ _=>trivial⟩
 case str b=>cases v<;>simp only[AV.fB] at h ⊢ <;> first | (cases h;done) | exact⟨h,fun _ _=>trivial⟩
 case bs b=>cases v<;>simp only[AV.dm] at h ⊢ <;> first | (cases h;done) | exact⟨h,fun _ _=>trivial⟩
 case sl z b =>
  cases v<;>simp only[AV.fR] at h ⊢ <;> try (cases h;done)
  rename_i z' l;cases he:Zy z' z with
  | false=>rw[he] at h;cases h
  | true =>
   have:=Zx he;subst this;rw[he] at h;exact⟨h,fun _ _=>rfl⟩
 all_goals exact⟨h,fun _ _=>trivial⟩
theorem qJ{α:Type}:∀ {os l:List AV} {k:List AV->Option α} {r:α},pc os l k=Zz r->k l=Zz r/\os.length=l.length/\∀ (β:Type) (k2:List AV->Option β),pc os l k2=k2 l
 | [],l,k,r,h=>by obtain⟨rfl,h⟩:=nP h;exact⟨h,rfl,fun _ _=>rfl⟩
 | o::os,l,k,r,h=>by
  simp only[pc] at h;obtain⟨x,t,rfl,h1⟩:=gK h;obtain⟨h2,d2⟩:=Fg h1;obtain⟨h3,e3,d3⟩:=qJ (k:=fun r'=>k (x::r')) h2;exact⟨h3,by simp[e3],fun β k2=>by simp only[pc,aA];rw[d2,d3]⟩
theorem DT{α:Type}:∀ {l:List Nat} {n:Nat} {f:Nat->Option α} {r:α},BE l n f=Zz r->∃ o,l[n]? = Zz o/\f o=Zz r
 | [],n,f,r,h=>by cases h
 | o::l,n,f,r,h=>by
  simp only[BE,aG] at h;cases n with
  | zero=>exact⟨o,rfl,h⟩
  | succ n =>
   have hb:Zy (n+1) 0=Zv:=rfl;rw[hb] at h;obtain⟨o',h1,h2⟩:=DT h;exact⟨o',by simpa using h1,h2⟩
theorem vQ{op:BinOp}{x y v:AV}(h:AF op x y=Zz (Zn,v)):ny op x y=Zz v:=by
 have WO:∀ {o:Option AV},(o.map fun v=>(Zn,v))=Zz (Zn,v)->o=Zz v:=fun {o} h=>by
  cases o with
  | none=>cases h
  | some w=>cases h;rfl
 have WD:∀ {f:IntKind->Int->Int->Bool} {gg:IntKind->Int->Int->AV},iI x y (fun k n m=>Zz (f k n m,gg k n m))=Zz (Zn,v)->iI x y (fun k n m=>aD (f k n m) (Zz (gg k n m)))=Zz v:=by
  intro f gg h;unfold iI at h ⊢;split at h
  ·obtain⟨hb,h⟩:=cM h;rw[hb];simp only[Option.some.injEq,Prod.mk.injEq] at h;simp only[h.1,h.2,aD,Qa6]
  ·simp only[Option.some.injEq,Prod.mk.injEq] at h;simp only[h.1,h.2,aD,Qa6]
  ·cases h
 cases op<;>simp only[AF] at h<;>first | exact WO h | exact WD h | skip
 ·split at h
  ·simp only[Option.some.injEq,Prod.mk.injEq] at h;simp only[ny,h.1,h.2,aD,Qa6]
  ·exact WO h
 all_goals
  split at h
  ·rename_i hm;simp only[Option.some.injEq,Prod.mk.injEq] at h;simp only[ny,hm,h.1,h.2,aD,Qa6]
  ·rename_i hm;simp only[Option.some.injEq,Prod.mk.injEq] at h;simp only[ny,hm,h.1,h.2,aD,Qa6]
  ·cases h
theorem Gu{i:TI}{op:BinOp}{x y v:AV}(h:ED i op x y=Zz (Zn,v)):EC i op x y=Zz v:=by
 cases x<;>simp only[ED,EC] at h ⊢ <;> try (first | exact vQ h | (cases h;done))
 ·cases hk:i.kind<;>rw[hk] at h<;>simp only at h ⊢ <;> first | exact vQ h | (cases h;done)
 ·cases he:i.U0 with
  | nil=>rw[he] at h;cases h
  | cons c r =>
   rw[he] at h;simp only at h ⊢;obtain⟨hb,h⟩:=cM h;rw[hb];exact vQ h
theorem u5:∀ (cs:List AV) (off:Nat) (n:List AV),off+n.length<=cs.length->ss cs off n=place cs off n
 | [],off,n,h=>by
  have hn:n.length=0:=by simp only[List.length_nil] at h;omega
  have:n=[]:=Yz hn;subst this;simp[ss,place]
 | c::cs,0,n,h=>by
  cases n with
  | nil=>simp[ss,place]
  | cons x r =>
   have:=u5 cs 0 r (by simp at h;omega);simp only[ss,this,place,List.take_zero,List.nil_append,Nat.zero_add,List.length_cons,List.drop_succ_cons,List.cons_append]
 | c::cs,k+1,n,h=>by
  have:=u5 cs k n (by simp at h;omega);simp only[ss,this,place,List.take_succ_cons,List.cons_append];rw[show k+1+n.length=(k+n.length)+1 by omega,List.drop_succ_cons]
theorem tR{sz:Nat}:∀ {els:List AV},(∀ x∈els,x.cells.length=sz)->∀ {n:Nat} {x:AV},els[n]? = Zz x->∀ {j:Nat} {c:AV},x.cells[j]? = Zz c->(els.flatMap AV.cells)[n*sz+j]? = Zz c
 | [],_,n,x,h,_,_,_=>by simp at h
 | y::r,hs,n,x,h,j,c,hj=>by
  have hy:=hs y (by simp);rw[Zg];cases n with
  | zero =>
   simp at h;subst h;have:j<y.cells.length:=(Zq.1 hj).1;rw[Nat.zero_mul,Nat.zero_add,List.getElem?_append_left this];exact hj
  | succ n =>
   simp at h;have ih:=tR (fun z hz=>hs z (by simp[hz])) h hj;rw[List.getElem?_append_right (by rw[hy,Yy];omega)];rw[show(n+1)*sz+j-y.cells.length=n*sz+j by rw[hy,Yy];omega];exact ih
theorem jo{sz:Nat}:∀ {els:List AV},(∀ x∈els,x.cells.length=sz)->(els.flatMap AV.cells).length=els.length*sz
 | [],_=>by simp
 | x::r,h=>by
  rw[Zg,List.length_append,jo fun y hy=>h y (by simp[hy]),h x (by simp),List.length_cons,Yy];omega
theorem JO{α:Type}{c:CT}{v:AV}{k:AV->Option α}{r:α}(h:gD c v k=Zz r):v.cells=[v]:=by
 cases v<;>first | rfl | (cases c<;>simp[gD,AV.ax,AV.pO,AV.dD,AV.fB,AV.dm,AV.fR] at h)
theorem DN{α:Type}{i:TI}{v:AV}{k:AV->Option α}{r:α}(h:norm i v k=Zz r)(ha:da i.kind=Zv):v.cells=[v]:=by
 unfold norm at h;rw[ha] at h;simp only at h;split at h
 ·exact JO h
 ·cases h
theorem xW{α:Type}{i:TI}{v:AV}{k:AV->Option α}{r:α}(h:norm i v k=Zz r):match v with | .bS _=>False | .aI _=>False | _=>True:=by
 cases v<;>try trivial
 all_goals
  unfold norm at h;split at h
  ·simp[AV.cV] at h
  ·split at h
   ·rename_i c _;cases c<;>simp[gD,AV.ax,AV.pO,AV.dD,AV.fB,AV.dm,AV.fR] at h
   ·cases h
theorem xU{α:Type}:∀ {hO:List CT} {cs:List AV} {k:List AV->Option α} {r:α},nN hO cs k=Zz r->∀ (j:Nat) (l:List AV),cs[j]? = Zz (.aI l)->False
 | [],cs,k,r,h,j,l,hj=>by
  obtain⟨rfl,_⟩:=nP h;simp at hj
 | c::hO,cs,k,r,h,j,l,hj=>by
  obtain⟨x,q,rfl,h2⟩:=gK h;cases j with
  | zero =>
   simp only[List.getElem?_cons_zero,Option.some.injEq] at hj;subst hj;cases c<;>simp[gD,AV.ax,AV.pO,AV.dD,AV.fB,AV.dm,AV.fR] at h2
  | succ j =>
   have h3:=mf h2;exact xU h3 j l (by simpa using hj)
theorem Bt{α:Type}{i:TI}{cs:List AV}{k:AV->Option α}{r:α}(h:norm i (.agg cs) k=Zz r)(j:Nat)(l:List AV)(hj:cs[j]? = Zz (.aI l)):False:=by
 unfold norm at h;split at h
 ·exact xU h j l hj
 ·split at h
  ·rename_i c _;cases c<;>simp[gD,AV.ax,AV.pO,AV.dD,AV.fB,AV.dm,AV.fR] at h
  ·cases h
theorem DM{α:Type}{t:Nat}:∀ {j:Nat} {hO:List CT} {cs:List AV} {k:List AV->List AV->Option α} {r:α},qt t j hO cs k=Zz r->∃ l,cs[j]? = Zz (.aI l)/\k (cs.set j (.row t)) l=Zz r
 | 0,[],cs,k,r,h=>by simp only[qt] at h;cases h
 | j+1,[],cs,k,r,h=>by simp only[qt] at h;cases h
 | 0,c::hO,cs,k,r,h=>by
  simp only[qt] at h;obtain⟨x,q,rfl,h2⟩:=gK h;obtain⟨l,rfl,h3⟩:=pN h2;exact⟨l,by simp,by simpa using wj h3⟩
 | j+1,c::hO,cs,k,r,h=>by
  simp only[qt] at h;obtain⟨x,q,rfl,h2⟩:=gK h;obtain⟨l,h4,h5⟩:=DM (mf h2);exact⟨l,by simpa using h4,by simpa using h5⟩
theorem L_{α:Type}{E:Env}{fs:List (Nat×Nat)}{t:Nat}{i:TI}{v:AV}{st:Nat->bH}{k:AV->(Nat->bH)->FP->Option α}{r:α}(h:G4 E fs t i v st k=Zz r) :
  (∃ cs j l e ei,v = .agg cs/\cs[j]? = Zz (.aI l)/\st t = .free/\PC E.ty fs=Zz (j,e,ei)/\k (.agg (cs.set j (.row t))) (cQ st t (.dz e ei.size l Zv)) ⟨[t],[t]⟩=Zz r)\/norm i v (fun v'=>k v' st .none)=Zz r:=by
 unfold G4 at h;split at h
 ·rename_i j e ei hf;split at h
  ·rename_i ht;obtain⟨cs,rfl,h2⟩:=uV h;obtain⟨l,h3,h4⟩:=DM h2;exact .inl ⟨cs,j,l,e,ei,rfl,h3,ht,hf,h4⟩
  ·cases h
 ·exact .inr h
end Go.Abs
/- The types of a program, as the abstract interpreter sees them. -/
namespace Go.Abs
def CS(P:Program)(t:Nat):Bool :=
 match P.underlying t,P.info? t with
 | some (.int .u8),Zz i=>i.size==1&&i.bytes==1&&(match i.zero with | some (.int .u8 0)=>Zn | _=>Zv)
 | _,_=>Zv
def sized(P:Program)(t:Nat):Bool:=match P.info? t with | some i=>Zk 0 i.size | none=>Zv
def KK(P:Program):Nat->Nat->Option (List CT)
 | 0,_=>none
 | n+1,t=>match P.underlying t with
  | some (.int .u8)=>Zz [.u8]
  | some (.int k)=>Zz [.int k]
  | some .bool=>Zz [.bool]
  | some .string=>Zz [.str]
  | some (.slice e)=>Zz [if CS P e then .eS else .sl (match P.info? e with | some i=>i.size | none=>0)]
  | some (.pointer _)=>Zz [.ptr]
  | some (.map _ _)=>Zz [.other]
  | some (.func _ _ _)=>Zz [.other]
  | some (.struct fs)=>fs.toList.foldr (fun f acc=>match KK P n f.type,acc with | some a,Zz b=>Zz (a++b) | _,_=>none) (Zz [])
  | some (.array k e)=>match KK P n e with
   | some l=>Zz ((List.replicate k l).flatten)
   | none=>none
  | _=>none
def g7(P:Program)(t:Nat):Option TK :=
 match P.underlying t with
 | some (.int .u8)=>Zz .u8
 | some (.int k)=>Zz (.int k)
 | some .bool=>Zz .bool
 | some .string=>Zz .str
 | some (.slice e)=>Zz (.slice e (CS P e))
 | some (.pointer e)=>Zz (.ptr e)
 | some (.array n e)=>Zz (.c4 n e (CS P e))
 | some (.map k e)=>Zz (.map k e)
 | some (.struct fs) => if fs.toList.all (fun f => sized P f.type && f.name != "_") then Zz (.struct (fs.toList.map fun f => (f.offset, f.type))) else none
 | some (.func _ _ _)=>Zz .other
 | _=>none
def xM(P:Program):List Field->Nat->Bool
 | [],_=>Zn
 | f :: r, o => f.offset == o && f.name != "_" && (match P.info? f.type with | some i => Zk 0 i.size && xM P r (o + i.size) | none => Zv)
def KJ(k:IntKind):CT:=match k with | .u8 => .u8 | k => .int k
def K4(a:Option (List CT))(i:Option TypeInfo)(b:Option (List CT)):Option (List CT) :=
 match a with
 | some a=>match i with
  | some i=>match b with
   | some b=>if a.length=i.size then Zz (a++b) else none
   | none=>none
  | none=>none
 | none=>none
def vw(P:Program):Nat->Nat->Option (List CT)
 | 0,_=>none
 | n+1,t=>match P.underlying t,P.info? t with
  | some (.int k),Zz i=>if i.size=1 then Zz [KJ k] else none
  | some .bool,Zz i=>if i.size=1 then Zz [.bool] else none
  | some .string,Zz i=>if i.size=1 then Zz [.str] else none
  | some (.struct fs),Zz i=>if P.stoodInHeld t=Zv/\xM P fs.toList 0=Zn then fs.toList.foldr (fun f acc=>K4 (vw P n f.type) (P.info? f.type) acc) (Zz []) else none
  | _,_=>none
def FU(z:Option Value)(k:TK):Bool:=match z with
 | some (.agg _)=>da k
 | some _ => !da k
 | none=>Zv
def fc(P:Program)(t:Nat):Option TI :=
 match P.info? t,g7 P t,KK P 20 t with
 | some i,Zz k,Zz hO=>match i.zero.bind fun v=>oU v.cells.toList with
  | some z=>if z.length=i.size&&hO.length=i.size&&FU i.zero k then Zz ⟨i.size,i.bytes,k,z,hO,if P.eqGuardType P.depth t=Zv then(vw P 20 t).getD [] else[]⟩ else none
  | none=>none
 | _,_,_=>none
end Go.Abs
/- What it means that a value of the model's, in a world, is one of the abstract interpreter's; and that this stays so. -/
namespace Go.Abs
abbrev bF:=Nat->Nat
def jZ(b:UInt8):Value := .int .u8 b.toNat
inductive bU (w:World) (p:bF):Value->AV->Prop
 | int {k:IntKind} {n:Int} (hk:k ≠ .u8):bU w p (.int k n) (.int k n)
 | u8 {b:UInt8}:bU w p (jZ b) (.u8 b)
 | bool {b:Bool}:bU w p (.bool b) (.bool b)
 | str {s:ByteArray} {l:List UInt8} (h:s.data.toList=l):bU w p (.string s) (.str l)
 | bs {a:Option Addr} {len cap:Nat} {l:List UInt8} (β off:Nat) (hl:l.length=len) (hc:len<=cap) (ha:len=0\/a=Zz ⟨β,off,none⟩)
   (h:∀ i b,l[i]? = Zz b->off+i<p β/\w.cell? ⟨β,off+i,none⟩=Zz (jZ b)):bU w p (.slice a len cap) (.bs l)
 | sl {a:Option Addr} {len cap sz:Nat} {els:List AV} (β off:Nat) (vs:Nat->Value) (hl:els.length=len) (hc:len<=cap) (fP:∀ e∈els,e.cells.length=sz) (ha:len=0\/a=Zz ⟨β,off,none⟩)
   (h:∀ j c,(els.flatMap AV.cells)[j]? = Zz c->off+j<p β/\w.cell? ⟨β,off+j,none⟩=Zz (vs j))
   (hr:∀ j c,(els.flatMap AV.cells)[j]? = Zz c->bU w p (vs j) c):bU w p (.slice a len cap) (.sl sz els)
 | dc {a:Option Addr}:bU w p (.slice a 0 0) .dc
 | nv:bU w p (.pointer none) .nv
 | Fb:bU w p (.map none) .Fb
 | xT:bU w p .nilFunc .xT
 | fn {f:Nat}:bU w p (.func (.func f) #[] #[]) (.fn f)
 | kG {β off:Nat} {cs:List AV} (vs:Nat->Value) (h:∀ j c,cs[j]? = Zz c->off+j<p β/\w.cell? ⟨β,off+j,none⟩=Zz (vs j))
   (hr:∀ j c,cs[j]? = Zz c->bU w p (vs j) c):bU w p (.pointer (Zz ⟨β,off,none⟩)) (.kG cs)
structure aZ (R:Value->AV->Prop) (vs:List Value) (cs:List AV):Prop where
 len:vs.length=cs.length
 each:∀ (i:Nat) (v:Value) (c:AV),vs[i]? = Zz v->cs[i]? = Zz c->R v c
theorem aZ.imp{R R':Value->AV->Prop}{vs:List Value}{cs:List AV}(h:aZ R vs cs)(hr:∀ v c,R v c->R' v c):aZ R' vs cs :=
 ⟨h.len,fun i v c hv hc=>hr v c (h.each i v c hv hc)⟩
theorem aZ.nil{R:Value->AV->Prop}:aZ R [] []:=⟨rfl,fun i v c hv=>by simp at hv⟩
theorem aZ.cons{R:Value->AV->Prop}{v:Value}{c:AV}{vs:List Value}{cs:List AV}(h:R v c)(t:aZ R vs cs):aZ R (v::vs) (c::cs) :=
 ⟨by simp[t.len],fun i x y hx hy=>by
  cases i with
  | zero=>simp at hx hy;subst hx;subst hy;exact h
  | succ i=>simp at hx hy;exact t.each i x y hx hy⟩
theorem aZ.iK{R:Value->AV->Prop}{vs:List Value}{c:AV}{cs:List AV}(h:aZ R vs (c::cs)):∃ v Rc,vs=v::Rc/\R v c/\aZ R Rc cs:=by
 cases vs with
 | nil=>have:=h.len;simp at this
 | cons v Rc=>exact⟨v,Rc,rfl,h.each 0 v c rfl rfl,by have:=h.len;simpa using this,fun i x y hx hy=>h.each (i+1) x y (by simpa using hx) (by simpa using hy)⟩
theorem aZ.jR{R:Value->AV->Prop}{vs:List Value}(h:aZ R vs []):vs=[]:=Yz (by simpa using h.len)
theorem aZ.get{R:Value->AV->Prop}{vs:List Value}{cs:List AV}(h:aZ R vs cs){i:Nat}{c:AV}(hc:cs[i]? = Zz c):∃ v,vs[i]? = Zz v/\R v c:=by
 have hi:i<cs.length:=(Zq.1 hc).1;have jX:i<vs.length:=by rw[h.len];exact hi
 exact⟨vs[i],Zb jX,h.each i _ c (Zb jX) hc⟩
theorem aZ.drop{R:Value->AV->Prop}{vs:List Value}{cs:List AV}(h:aZ R vs cs)(n:Nat):aZ R (vs.drop n) (cs.drop n) :=
 ⟨by simp[h.len],fun i v c hv hc=>h.each (n+i) v c (by simpa using hv) (by simpa using hc)⟩
theorem aZ.take{R:Value->AV->Prop}{vs:List Value}{cs:List AV}(h:aZ R vs cs)(n:Nat):aZ R (vs.take n) (cs.take n) :=
 ⟨by simp[h.len],fun i v c hv hc=>by
  rw[Zj] at hv hc;split at hv
  ·rw[Qa1 ‹_›] at hc;exact h.each i v c hv hc
  ·cases hv⟩
theorem aZ.append{R:Value->AV->Prop}{vs us:List Value}{cs ds:List AV}(h:aZ R vs cs)(k:aZ R us ds):aZ R (vs++us) (cs++ds) :=
 ⟨by simp[h.len,k.len],fun i v c hv hc=>by
  rw[List.getElem?_append] at hv hc;rw[h.len] at hv;split at hv
  ·rw[Qa1 ‹_›] at hc;exact h.each i v c hv hc
  ·rw[Qa0 ‹_›] at hc;exact k.each _ v c hv hc⟩
def bP:Value->Option Nat
 | .pointer (Zz a)=>Zz a.block
 | .slice (Zz a) _ cap=>if cap=0 then none else Zz a.block
 | .map (Zz r)=>Zz r
 | _=>none
section
variable (w:World) (p:bF) (g:Nat->Value) (u:Nat->Prop)
inductive cR:Value->AV->Prop
 | l_ {v:Value} {a:AV} (h:bU w p v a):cR v a
 | ptr {k off β:Nat} (hu:u k) (hg:g k = .pointer (Zz ⟨β,0,none⟩)):cR (.pointer (Zz ⟨β,off,none⟩)) (.ptr k off)
 | kj {k i sz off β:Nat} (hu:u k) (hg:bP (g k)=Zz β):cR (.pointer (Zz ⟨β,i*sz+off,none⟩)) (.kj k i sz off)
 | row {k:Nat} (hu:u k) (hs:∃ a l c,g k = .slice a l c):cR (g k) (.row k)
 | mp {k β:Nat} (hu:u k) (hg:g k = .map (Zz β)):cR (.map (Zz β)) (.mp k)
 | bK {k e sz:Nat} (hu:u k) (hs:∃ a l c,g k = .slice a l c):cR (g k) (.bK k e sz)
 | bN {k β b cap:Nat} {iF:List Nat} (hu:u k) (hg:g k = .pointer (Zz ⟨b,0,none⟩)) (h:∀ (j off:Nat),iF[j]? = Zz off->j<p β/\w.cell? ⟨β,j,none⟩=Zz (.pointer (Zz ⟨b,off,none⟩))):cR (.slice (Zz ⟨β,0,none⟩) iF.length cap) (.bN k iF)
 | rD {k β j off b:Nat} (hu:u k) (hg:g k = .pointer (Zz ⟨b,0,none⟩)) (hp:j<p β) (hc:w.cell? ⟨β,j,none⟩=Zz (.pointer (Zz ⟨b,off,none⟩))):cR (.pointer (Zz ⟨β,j,none⟩)) (.rD k off)
 | pre {k n β l cap:Nat} (hu:u k) (hg:g k = .slice (Zz ⟨β,0,none⟩) l cap) (hn:n<=l):cR (.slice (Zz ⟨β,0,none⟩) n cap) (.pre k n)
 | FX {k m β l cap:Nat} {a:Option Addr} (hu:u k) (hg:g k = .slice (Zz ⟨β,0,none⟩) l cap) (hm:m<=l) (ha:m=l\/a=Zz ⟨β,m,none⟩):cR (.slice a (l-m) (cap-m)) (.FX k m)
 | Cv {f:Nat} {vs us:Array Value} {fs cs:List (Nat×Nat)} (h1:vs.size=fs.length) (h2:us.size=cs.length)
   (hf:∀ (j k off:Nat),fs[j]? = Zz (k,off)->u k/\∃ β,g k = .pointer (Zz ⟨β,0,none⟩)/\vs[j]? = Zz (.pointer (Zz ⟨β,off,none⟩)))
   (hc:∀ (j k off:Nat),cs[j]? = Zz (k,off)->u k/\∃ β,g k = .pointer (Zz ⟨β,0,none⟩)/\us[j]? = Zz (.pointer (Zz ⟨β,off,none⟩))):cR (.func (.func f) vs us) (.Cv f fs cs)
def wI(v:Value)(a:AV):Prop :=
 cR w p g u v a\/∃ c4 cs,v = .agg c4/\a = .agg cs/\aZ (cR w p g u) c4.toList cs
def bC(v:Value)(a:AV):Prop :=
 a = .undef\/wI w p g u v a\/∃ c4 as,v = .tuple c4/\a = .aQ as/\aZ (wI w p g u) c4.toList as
end
structure cX (w:World) (p:bF) (g:Nat->Value) (u:Nat->Prop) (w':World) (p':bF) (g':Nat->Value) (u':Nat->Prop):Prop where
 mv:∀ β,p β<=p' β
 cell:∀ β i,i<p β->w'.cell? ⟨β,i,none⟩=w.cell? ⟨β,i,none⟩
 gk:∀ k,u k->g' k=g k
 uk:∀ k,u k->u' k
theorem bU.mono{w w':World}{p p':bF}(hp:∀ β,p β<=p' β)(hc:∀ β i,i<p β->w'.cell? ⟨β,i,none⟩=w.cell? ⟨β,i,none⟩){v:Value}{a:AV}(h:bU w p v a):bU w' p' v a:=by
 induction h with
 | int hk=>exact .int hk
 | u8=>exact .u8
 | bool=>exact .bool
 | str h=>exact .str h
 | bs β off hl nH ha h=>exact .bs β off hl nH ha fun i b hb=>⟨Zf (h i b hb).1 (hp β),(hc β _ (h i b hb).1).trans (h i b hb).2⟩
 | sl β off vs hl nH fP ha h _ ih=>exact .sl β off vs hl nH fP ha (fun j c hj=>⟨Zf (h j c hj).1 (hp β),(hc β _ (h j c hj).1).trans (h j c hj).2⟩) ih
 | dc=>exact .dc
 | nv=>exact .nv
 | Fb=>exact .Fb
 | xT=>exact .xT
 | fn=>exact .fn
 | kG vs h _ ih=>exact .kG vs (fun j c hj=>⟨Zf (h j c hj).1 (hp _),(hc _ _ (h j c hj).1).trans (h j c hj).2⟩) ih
section
variable {w w':World} {p p':bF} {g g':Nat->Value} {u u':Nat->Prop}
theorem cX.refl:cX w p g u w p g u:=⟨fun _=>Zd _,fun _ _ _=>rfl,fun _ _=>rfl,fun _ h=>h⟩
theorem cX.trans{w'':World}{p'':bF}{g'':Nat->Value}{u'':Nat->Prop}(h:cX w p g u w' p' g' u')(k:cX w' p' g' u' w'' p'' g'' u''):cX w p g u w'' p'' g'' u'' :=
 ⟨fun β=>Nat.le_trans (h.mv β) (k.mv β),fun β i hi=>(k.cell β i (Zf hi (h.mv β))).trans (h.cell β i hi),fun x hx=>(k.gk x (h.uk x hx)).trans (h.gk x hx),fun x hx=>k.uk x (h.uk x hx)⟩
theorem cX.vn(m:cX w p g u w' p' g' u'){v:Value}{a:AV}(h:bU w p v a):bU w' p' v a:=h.mono m.mv m.cell
theorem cX.C3(m:cX w p g u w' p' g' u'){v:Value}{a:AV}(h:cR w p g u v a):cR w' p' g' u' v a:=by
 cases h with
 | l_ h=>exact .l_ (m.vn h)
 | ptr hu hg=>exact .ptr (m.uk _ hu) ((m.gk _ hu).trans hg)
 | kj hu hg=>exact .kj (m.uk _ hu) (by rw[m.gk _ hu];exact hg)
 | row hu hs=>rw[<-m.gk _ hu];exact .row (m.uk _ hu) (by rw[m.gk _ hu];exact hs)
 | mp hu hg=>exact .mp (m.uk _ hu) ((m.gk _ hu).trans hg)
 | bK hu hs=>rw[<-m.gk _ hu];exact .bK (m.uk _ hu) (by rw[m.gk _ hu];exact hs)
 | bN hu hg h=>exact .bN (m.uk _ hu) ((m.gk _ hu).trans hg) fun j off hj=>⟨Zf (h j off hj).1 (m.mv _),(m.cell _ _ (h j off hj).1).trans (h j off hj).2⟩
 | rD hu hg hp hc=>exact .rD (m.uk _ hu) ((m.gk _ hu).trans hg) (Zf hp (m.mv _)) ((m.cell _ _ hp).trans hc)
 | pre hu hg hn=>exact .pre (m.uk _ hu) ((m.gk _ hu).trans hg) hn
 | FX hu hg hm ha=>exact .FX (m.uk _ hu) ((m.gk _ hu).trans hg) hm ha
 | Cv h1 h2 hf hc=>exact .Cv h1 h2 (fun j k off hj=>by obtain⟨hu,β,hg,hv⟩:=hf j k off hj;exact⟨m.uk _ hu,β,(m.gk _ hu).trans hg,hv⟩) (fun j k off hj=>by obtain⟨hu,β,hg,hv⟩:=hc j k off hj;exact⟨m.uk _ hu,β,(m.gk _ hu).trans hg,hv⟩)
theorem cX.MS(m:cX w p g u w' p' g' u'){v:Value}{a:AV}(h:wI w p g u v a):wI w' p' g' u' v a:=by
 rcases h with h | ⟨c4,cs,rfl,rfl,h⟩
 ·exact .inl (m.C3 h)
 ·exact .inr ⟨c4,cs,rfl,rfl,h.imp fun _ _=>m.C3⟩
theorem cX.z7(m:cX w p g u w' p' g' u'){v:Value}{a:AV}(h:bC w p g u v a):bC w' p' g' u' v a:=by
 rcases h with h | h | ⟨c4,cs,rfl,rfl,h⟩
 ·exact .inl h
 ·exact .inr (.inl (m.MS h))
 ·exact .inr (.inr ⟨c4,cs,rfl,rfl,h.imp fun _ _=>m.MS⟩)
end
def ly(w:World)(B e size:Nat)(v:Value)(n:Nat)(xs:List Value):Prop :=
 xs.length=n*size/\((n=0/\∃ a,v = .slice a 0 0) \/
  ∃ β cap j5,v = .slice (Zz ⟨β,0,none⟩) n cap/\0<cap/\B<=β/\w.heap[β]? = Zz (.cells j5 e (0,0))/\n<=cap/\cap<=maxLen/\j5.size=cap*size/\j5.toList.take (n*size)=xs)
def used(st:Nat->bH)(k:Nat):Prop:=st k ≠ .free
def vL(w:World)(p:bF)(β e sz cap:Nat)(els:List AV):Prop :=
 0<sz/\(∀ x∈els,x.cells.length=sz)/\0<cap/\els.length<=cap/\cap<=maxLen/\p β=0/\∃ j5 vs,w.heap[β]? = Zz (.cells j5 e (0,0))/\j5.size=cap*sz/\vs.length=els.length*sz/\j5.toList.take (els.length*sz)=vs/\aZ (bU w p) vs (els.flatMap AV.cells)
def yA(w:World)(p:bF)(s:Bool)(kd:IntKind)(es:Array MapEntry)(els:List AV):Prop :=
 es.size=els.length/\∀ (i:Nat) (e:MapEntry) (a:AV),es[i]? = Zz e->els[i]? = Zz a->∃ ka va,a = .aQ [ka,va]/\qo s kd ka=Zn/\bU w p e.key ka/\(bU w p e.val va\/∃ c4 cs,e.val = .agg c4/\va = .agg cs/\aZ (bU w p) c4.toList cs)
theorem vL.jf{w w':World}{p p':bF}{β e sz cap:Nat}{els:List AV}(h:vL w p β e sz cap els)(hr:∀ v a,bU w p v a->bU w' p' v a)(e1:w'.heap[β]? = w.heap[β]?)(e2:p' β=p β):vL w' p' β e sz cap els:=by
 obtain⟨h1,h2,h3,h4,h5,h6,j5,vs,h7,h8,h9,Tm,V1⟩:=h;exact⟨h1,h2,h3,h4,h5,e2.trans h6,j5,vs,e1.trans h7,h8,h9,Tm,V1.imp hr⟩
theorem yA.mono{w w':World}{p p':bF}{s:Bool}{kd:IntKind}{es:Array MapEntry}{els:List AV}(h:yA w p s kd es els)(hr:∀ v a,bU w p v a->bU w' p' v a):yA w' p' s kd es els:=by
 refine⟨h.1,fun i e a he ha=> ?_⟩;obtain⟨ka,va,h1,h2,h3,h4⟩:=h.2 i e a he ha;refine⟨ka,va,h1,h2,hr _ _ h3,?_⟩;rcases h4 with h4 | ⟨c4,cs,e1,e2,e3⟩
 ·exact .inl (hr _ _ h4)
 ·exact .inr ⟨c4,cs,e1,e2,e3.imp hr⟩
def nw(w:World)(p:bF)(g:Nat->Value)(u:Nat->Prop)(B:Nat)(M:Nat->Prop)(k:Nat):bH->Prop
 | .free=>True
 | .dead=>True
 | .cells cs=>∃ β c e,g k = .pointer (Zz ⟨β,0,none⟩)/\(M β\/B<=β)/\w.heap[β]? = Zz (.cells c e (0,0))/\aZ (cR w p g u) c.toList cs/\p β=0
 | .jm l iG=>∃ β c e,g k = .pointer (Zz ⟨β,0,none⟩)/\B<=β/\w.heap[β]? = Zz (.cells c e (0,0))/\c.toList=l.map jZ/\p β<=l.length/\(iG=Zv->p β=0)
 | .fb e l iG=>ly w B e 1 (g k) l.length (l.map jZ)/\∀ β,bP (g k)=Zz β->p β<=l.length/\(iG=Zv->p β=0)
 | .dz e sz els iG=>0<sz/\(∀ x∈els,x.cells.length=sz)/\∃ vs,ly w B e sz (g k) els.length vs/\aZ (bU w p) vs (els.flatMap AV.cells) /\
   ∀ β,bP (g k)=Zz β->p β<=els.length*sz/\(iG=Zv->p β=0)
 | .ou s kd els=>∃ β es clock,g k = .map (Zz β)/\B<=β/\w.heap[β]? = Zz (.map es clock)/\yA w p s kd es els/\p β=0
 | .iW e sz els=>∃ β cap,g k = .slice (Zz ⟨β,0,none⟩) els.length cap/\(M β\/B<=β)/\vL w p β e sz cap els
def bH.live:bH->Prop
 | .free=>False
 | .dead=>False
 | _=>True
structure cg (B:Nat) (M:Nat->Prop) (w0:World) (p0:bF) (w:World) (p:bF) (g:Nat->Value) (st:Nat->bH):Prop where
 os:w.os=w0.os
 tape:w.tape=w0.tape
 output:w.output=w0.output
 size:B<=w.heap.size
 old:∀ β,β<B->¬ M β->w.heap[β]? = w0.heap[β]?
 ns:∀ k,nw w p g (used st) B M k (st k)
 s6:∀ k k' β,k≠k'->(st k).live->(st k').live->bP (g k)=Zz β->bP (g k')≠Zz β
 mZ:∀ β,w.heap.size<=β->p β=0
 Mv:∀ β,β<B->p β=p0 β
theorem fz{w:World}{β i:Nat}{c:Array Value}{e:TypeId}{f:Nat×Nat}(h:w.heap[β]? = Zz (.cells c e f)):w.cell? ⟨β,i,none⟩=c[i]? := by
 simp[World.cell?,h]
theorem lJ{w:World}{β:Nat}{o:Obj}(h:w.heap[β]? = Zz o):β<w.heap.size:=(Array.getElem?_eq_some_iff.1 h).1
theorem o9{w w':World}{β:Nat}(h:w'.heap[β]? = w.heap[β]?)(i:Nat):w'.cell? ⟨β,i,none⟩=w.cell? ⟨β,i,none⟩:=by
 simp[World.cell?,h]
theorem aT{β:Type}(f:Nat->β)(k:Nat)(b:β):cQ f k b k=b:=by simp[cQ]
theorem bY{β:Type}(f:Nat->β){k x:Nat}(b:β)(h:x≠k):cQ f k b x=f x:=by
 have hb:Zy x k=Zv:=by
  cases hb:Zy x k
  ·rfl
  ·exact absurd (Zx hb) h
 simp[cQ,hb]
theorem ly.jf{w w':World}{B e size:Nat}{v:Value}{n:Nat}{xs:List Value}(h:ly w B e size v n xs)(hk:∀ β,bP v=Zz β->w'.heap[β]? = w.heap[β]?):ly w' B e size v n xs:=by
 obtain⟨hl,h | ⟨β,cap,j5,rfl,h0,hB,hh,r⟩⟩:=h
 ·exact⟨hl,.inl h⟩
 ·exact⟨hl,.inr ⟨β,cap,j5,rfl,h0,hB,by rw[hk β (by simp[bP];omega)];exact hh,r⟩⟩
theorem nw.jf{w w':World}{p p':bF}{g g':Nat->Value}{u u':Nat->Prop}{B:Nat}{M:Nat->Prop}{k:Nat}{b:bH}(h:nw w p g u B M k b)(m:cX w p g u w' p' g' u')(hu:u k)
  (hk:∀ β,bP (g k)=Zz β->w'.heap[β]? = w.heap[β]? /\ p' β=p β):nw w' p' g' u' B M k b:=by
 have hg:=m.gk k hu;cases b with
 | free=>trivial
 | dead=>trivial
 | cells cs =>
  obtain⟨β,c,e,h1,h2,h3,h4,h5⟩:=h;obtain⟨e1,e2⟩:=hk β (by rw[h1];rfl);exact⟨β,c,e,hg.trans h1,h2,e1.trans h3,h4.imp fun _ _=>m.C3,e2.trans h5⟩
 | jm l iG =>
  obtain⟨β,c,e,h1,h2,h3,h4,h5,h6⟩:=h;obtain⟨e1,e2⟩:=hk β (by rw[h1];rfl);exact⟨β,c,e,hg.trans h1,h2,e1.trans h3,h4,by rw[e2];exact h5,fun x=>e2.trans (h6 x)⟩
 | fb e l iG =>
  obtain⟨h1,h2⟩:=h;refine⟨by rw[hg];exact h1.jf fun β hb=>(hk β hb).1,fun β hb=> ?_⟩;rw[hg] at hb;rw[(hk β hb).2];exact h2 β hb
 | dz e sz els iG =>
  obtain⟨h0,h1,vs,h2,h3,h4⟩:=h;refine⟨h0,h1,vs,by rw[hg];exact h2.jf fun β hb=>(hk β hb).1,h3.imp fun _ _=>m.vn,fun β hb=> ?_⟩;rw[hg] at hb;rw[(hk β hb).2];exact h4 β hb
 | ou s kd els =>
  obtain⟨β,es,clock,h1,h2,h3,h4,h5⟩:=h;obtain⟨e1,e2⟩:=hk β (by rw[h1];rfl);exact⟨β,es,clock,hg.trans h1,h2,e1.trans h3,h4.mono fun _ _=>m.vn,e2.trans h5⟩
 | iW e sz els =>
  obtain⟨β,cap,h1,h2,h3⟩:=h;obtain⟨e1,e2⟩:=hk β (by rw[h1];have:=h3.2.2.1;simp[bP];omega);exact⟨β,cap,hg.trans h1,h2,h3.jf (fun _ _=>m.vn) e1 e2⟩
theorem o_{st:Nat->bH}{k:Nat}(h:(st k).live):used st k:=fun e=>by rw[e] at h;exact h
theorem nw.vi{w:World}{p:bF}{g:Nat->Value}{u:Nat->Prop}{B:Nat}{M:Nat->Prop}{k:Nat}{b:bH}(h:nw w p g u B M k b)(hl:b.live){β:Nat}(hv:bP (g k)=Zz β):β<w.heap.size:=by
 cases b with
 | free=>exact hl.elim
 | dead=>exact hl.elim
 | cells cs=>obtain⟨β',c,e,h1,h2,h3,_⟩:=h;rw[h1] at hv;cases hv;exact lJ h3
 | jm l iG=>obtain⟨β',c,e,h1,h2,h3,_⟩:=h;rw[h1] at hv;cases hv;exact lJ h3
 | fb e l iG =>
  obtain⟨⟨_,⟨_,a,h⟩ | ⟨β',cap,j5,h,h0,hB,hh,_⟩⟩,_⟩:=h
  ·rw[h] at hv;cases a<;>simp[bP] at hv
  ·rw[h] at hv;have:β'=β:=by simp[bP] at hv;exact hv.2
   subst this;exact lJ hh
 | dz e sz els iG =>
  obtain⟨_,_,vs,⟨_,⟨_,a,h⟩ | ⟨β',cap,j5,h,h0,hB,hh,_⟩⟩,_⟩:=h
  ·rw[h] at hv;cases a<;>simp[bP] at hv
  ·rw[h] at hv;have:β'=β:=by simp[bP] at hv;exact hv.2
   subst this;exact lJ hh
 | ou s kd els=>obtain⟨β',es,clock,h1,h2,h3,_⟩:=h;rw[h1] at hv;cases hv;exact lJ h3
 | iW e sz els =>
  obtain⟨β',cap,h1,h2,h3,h4,h5,h6,h7,h8,j5,vs,h9,_⟩:=h;rw[h1] at hv;have:β'=β:=by simp[bP] at hv;exact hv.2
  subst this;exact lJ h9
theorem cg.change{B:Nat}{M:Nat->Prop}{w0:World}{p0:bF}{w w':World}{p p':bF}{g g':Nat->Value}{st st':Nat->bH}(h:cg B M w0 p0 w p g st)
  (TO:w'.os=w.os) (A3:w'.tape=w.tape) (EW:w'.output=w.output) (fP:w.heap.size<=w'.heap.size)
  (K D:Nat->Prop) (dC:∀ k,¬ K k->st' k=st k) (hu:∀ k,used st k->used st' k) (hg:∀ k,used st k->g' k=g k)
  (pG:∀ β,β<w.heap.size->¬ D β->w'.heap[β]? = w.heap[β]? /\ p' β=p β)
  (hD:∀ β,D β->β<B->M β/\p' β=p β)
  (tY:∀ β,p β<=p' β) (hcell:∀ β i,i<p β->w'.cell? ⟨β,i,none⟩=w.cell? ⟨β,i,none⟩)
  (GU:∀ β,w'.heap.size<=β->p' β=0)
  (Wa:∀ k β,¬ K k->(st k).live->bP (g k)=Zz β->¬ D β)
  (hK:∀ k,K k->nw w' p' g' (used st') B M k (st' k))
  (Sx:∀ k k' β,K k->k'≠k->(st' k).live->(st' k').live->bP (g' k)=Zz β->bP (g' k')≠Zz β) :
  cg B M w0 p0 w' p' g' st'/\cX w p g (used st) w' p' g' (used st'):=by
 have hm:cX w p g (used st) w' p' g' (used st'):=⟨tY,hcell,hg,hu⟩;refine⟨⟨TO.trans h.os,A3.trans h.tape,EW.trans h.output,Nat.le_trans h.size fP,fun β hβ hM=> ?_,fun k=> ?_,fun k k' β hU hl sM hv=> ?_,GU,fun β hβ=> ?_⟩,hm⟩
 ·have hnD:¬ D β:=fun hd=>hM (hD β hd hβ).1;exact(pG β (Zf hβ h.size) hnD).1.trans (h.old β hβ hM)
 ·by_cases hk:K k
  ·exact hK k hk
  ·have hs:=dC k hk;rw[hs];by_cases hl:(st k).live
   ·exact(h.ns k).jf hm (o_ hl) fun β hv=>pG β ((h.ns k).vi hl hv) (Wa k β hk hl hv)
   ·cases hb:st k<;>first | trivial | (rw[hb] at hl;exact absurd trivial hl)
 ·by_cases hk:K k
  ·exact Sx k k' β hk (Ne.symm hU) hl sM hv
  ·by_cases sL:K k'
   ·intro A4;exact Sx k' k β sL hU sM hl A4 hv
   ·rw[dC k hk] at hl;rw[dC k' sL] at sM;rw[hg k (o_ hl)] at hv;rw[hg k' (o_ sM)];exact h.s6 k k' β hU hl sM hv
 ·by_cases hd:D β
  ·exact(hD β hd hβ).2.trans (h.Mv β hβ)
  ·exact(pG β (Zf hβ h.size) hd).2.trans (h.Mv β hβ)
section
variable {B:Nat} {M:Nat->Prop} {w0:World} {p0:bF} {w w':World} {p p':bF} {g:Nat->Value} {st:Nat->bH}
theorem pY{t:Nat}{b:bH}(hb:b ≠ .free){k:Nat}(h:used st k):used (cQ st t b) k:=by
 by_cases e:k=t
 ·subst e;unfold used;rw[aT];exact hb
 ·unfold used;rw[bY _ _ e];exact h
theorem cg.add(h:cg B M w0 p0 w p g st){t:Nat}{b:bH}{v:Value}(ht:st t = .free)(hb:b ≠ .free)
  (TO:w'.os=w.os) (A3:w'.tape=w.tape) (EW:w'.output=w.output) (fP:w.heap.size<=w'.heap.size)
  (pG:∀ β,β<w.heap.size->w'.heap[β]? = w.heap[β]? /\ p' β=p β) (tY:∀ β,p β<=p' β) (GU:∀ β,w'.heap.size<=β->p' β=0)
  (hv:∀ β,bP v=Zz β->w.heap.size<=β)
  (hB:cX w p g (used st) w' p' (cQ g t v) (used (cQ st t b))->nw w' p' (cQ g t v) (used (cQ st t b)) B M t b) :
  cg B M w0 p0 w' p' (cQ g t v) (cQ st t b)/\cX w p g (used st) w' p' (cQ g t v) (used (cQ st t b)):=by
 have hu:∀ k,used st k->used (cQ st t b) k:=fun k hk=>pY hb hk;have hg:∀ k,used st k->cQ g t v k=g k:=fun k hk=>bY _ _ (fun e=>by subst e;exact hk ht);have hcell:∀ β i,i<p β->w'.cell? ⟨β,i,none⟩=w.cell? ⟨β,i,none⟩:=fun β i hi=>by
  rcases Nat.lt_or_ge β w.heap.size with fY | AW
  ·exact o9 (pG β fY).1 i
  ·rw[h.mZ β AW] at hi;omega
 refine h.change TO A3 EW fP (fun k=>k=t) (fun _=>False) (fun k hk=>bY _ _ hk) hu hg (fun β hβ _=>pG β hβ) (fun _ hd=>hd.elim) tY hcell GU (fun _ _ _ _ _ hd=>hd.elim) ?_ ?_
 ·rintro k rfl;rw[aT];exact hB ⟨tY,hcell,hg,hu⟩
 ·rintro k k' β rfl hU _ sM KY n_;rw[aT] at KY;rw[bY _ _ hU] at sM n_;have h1:=hv β KY;have h2:=(h.ns k').vi sM n_;omega
theorem cg.modify(h:cg B M w0 p0 w p g st){k:Nat}{b:bH}{β₀:Nat}(hk:(st k).live)(hb:b.live)(hβ:bP (g k)=Zz β₀)
  (TO:w'.os=w.os) (A3:w'.tape=w.tape) (EW:w'.output=w.output) (fP:w'.heap.size=w.heap.size)
  (pG:∀ β,β≠β₀->w'.heap[β]? = w.heap[β]? /\ p' β=p β) (hB0:β₀<B->M β₀/\p' β₀=p β₀)
  (tY:p β₀<=p' β₀) (hcell:∀ i,i<p β₀->w'.cell? ⟨β₀,i,none⟩=w.cell? ⟨β₀,i,none⟩)
  (hB:cX w p g (used st) w' p' g (used (cQ st k b))->nw w' p' g (used (cQ st k b)) B M k b) :
  cg B M w0 p0 w' p' g (cQ st k b)/\cX w p g (used st) w' p' g (used (cQ st k b)):=by
 have LO:b ≠ .free:=fun e=>by rw[e] at hb;exact hb
 have hu:∀ j,used st j->used (cQ st k b) j:=fun j hj=>pY LO hj;have fY:β₀<w.heap.size:=(h.ns k).vi hk hβ;have Ot:∀ β,p β<=p' β:=fun β=>by
  by_cases e:β=β₀
  ·subst e;exact tY
  ·rw[(pG β e).2];exact Zd _
 have Ob:∀ β i,i<p β->w'.cell? ⟨β,i,none⟩=w.cell? ⟨β,i,none⟩:=fun β i hi=>by
  by_cases e:β=β₀
  ·subst e;exact hcell i hi
  ·exact o9 (pG β e).1 i
 refine h.change TO A3 EW (by omega) (fun j=>j=k) (fun β=>β=β₀) (fun j hj=>bY _ _ hj) hu (fun _ _=>rfl) (fun β _ hd=>pG β hd) (fun β hd hlB=>by subst hd;exact hB0 hlB) Ot Ob ?_ ?_ ?_ ?_
 ·intro β hβ;rw[(pG β (by omega)).2];exact h.mZ β (by omega)
 ·rintro j β hj hl hv rfl;exact h.s6 j k β hj hl hk hv hβ
 ·rintro j rfl;rw[aT];exact hB ⟨Ot,Ob,fun _ _=>rfl,hu⟩
 ·rintro j j' β rfl hU _ sM KY n_;rw[bY _ _ hU] at sM;exact h.s6 j j' β (Ne.symm hU) hk sM KY n_
end
end Go.Abs
/- The types' facts; constants; operations that touch no memory. -/
namespace Go.Abs
theorem bz{P:Program}{t:Nat}{i:TI}(h:fc P t=Zz i):∃ info z,P.info? t=Zz info/\info.size=i.size/\info.bytes=i.bytes/\info.zero=Zz z/\oU z.cells.toList=Zz i.zero/\i.zero.length=i.size/\i.hO.length=i.size/\g7 P t=Zz i.kind/\KK P 20 t=Zz i.hO/\i.U0=(if P.eqGuardType P.depth t=Zv then(vw P 20 t).getD [] else[]):=by
 unfold fc at h;split at h
 ·rename_i info k hO h1 h2 h3;cases hz:info.zero with
  | none=>simp[hz] at h
  | some z =>
   cases hc:oU z.cells.toList with
   | none=>simp[hz,hc] at h
   | some cs =>
    simp only[hz,Option.bind_some,hc] at h;split at h
    ·rename_i hl;simp at hl;cases h;exact⟨info,z,h1,rfl,rfl,hz,hc,hl.1.1,hl.1.2,h2,h3,rfl⟩
    ·cases h
 ·cases h
theorem Mo{P:Program}{t:Nat}{i:TI}(h:fc P t=Zz i):∃ info,P.info? t=Zz info/\FU info.zero i.kind=Zn:=by
 unfold fc at h;split at h
 ·rename_i info k hO h1 h2 h3;split at h
  ·split at h
   ·rename_i hl;simp only[Zp] at hl;cases h;exact⟨info,h1,hl.2⟩
   ·cases h
  ·cases h
 ·cases h
theorem eH{P:Program}{t e:Nat}{b:Bool}(h:g7 P t=Zz (.slice e b)):P.underlying t=Zz (.slice e)/\b=CS P e:=by grind [g7]
theorem rm{P:Program}{t n e:Nat}{b:Bool}(h:g7 P t=Zz (.c4 n e b)):P.underlying t=Zz (.array n e)/\b=CS P e:=by grind [g7]
theorem OL{P:Program}{t e:Nat}(h:g7 P t=Zz (.ptr e)):P.underlying t=Zz (.pointer e):=by grind [g7]
theorem mW{P:Program}{t:Nat}(h:g7 P t=Zz .str):P.underlying t=Zz .string:=by grind [g7]
theorem Dz{P:Program}{t:Nat}(h:g7 P t=Zz .bool):P.underlying t=Zz .bool:=by grind [g7]
theorem K7{P:Program}{t:Nat}(h:g7 P t=Zz .u8):P.underlying t=Zz (.int .u8):=by grind [g7]
theorem Be{P:Program}{t:Nat}{k:IntKind}(h:g7 P t=Zz (.int k)):P.underlying t=Zz (.int k)/\k ≠ .u8:=by grind [g7]
theorem oo {P : Program} {t : Nat} {fs : List (Nat × Nat)} (h : g7 P t = Zz (.struct fs)) : ∃ fields, P.underlying t = Zz (.struct fields) ∧ (∀ f ∈ fields.toList, sized P f.type = Zn ∧ f.name ≠ "_") ∧ fs = fields.toList.map fun f => (f.offset, f.type) := by grind [g7]
theorem xJ{P:Program}{t k e:Nat}(h:g7 P t=Zz (.map k e)):P.underlying t=Zz (.map k e):=by grind [g7]
theorem JD{P:Program}{t:Nat}(h:g7 P t=Zz .other):∃ a b c,P.underlying t=Zz (.func a b c):=by grind [g7]
theorem je{P:Program}{e:Nat}(h:CS P e=Zn):P.underlying e=Zz (.int .u8)/\∃ info,P.info? e=Zz info/\info.size=1/\info.bytes=1/\info.zero=Zz (.int .u8 0):=by
 unfold CS at h;split at h
 ·rename_i i h1 h2;simp only[Zp,Qb1] at h;refine⟨h1,i,h2,h.1.1,h.1.2,?_⟩;have h3:=h.2;split at h3
  ·assumption
  ·cases h3
 ·cases h
theorem pf{P:Program}{t:Nat}{k:TK}(h:g7 P t=Zz k)(w:World):(isAgg t).run P w = .ok (da k) w:=by
 unfold isAgg;cases k with
 | int k=>simp[run_underlying (Be h).1,da]
 | u8=>simp[run_underlying (K7 h),da]
 | bool=>simp[run_underlying (Dz h),da]
 | str=>simp[run_underlying (mW h),da]
 | slice e b=>simp[run_underlying (eH h).1,da]
 | c4 n e b=>simp[run_underlying (rm h).1,da]
 | struct fs=>obtain⟨fields,hu,_⟩:=oo h;simp[run_underlying hu,da]
 | ptr e=>simp[run_underlying (OL h),da]
 | map a b=>simp[run_underlying (xJ h),da]
 | other=>obtain⟨a,b,c,hu⟩:=JD h;simp[run_underlying hu,da]
theorem run_sizeOf{P:Program}{t:Nat}{info:TypeInfo}(h:P.info? t=Zz info)(w:World):(sizeOf t).run P w = .ok info.size w:=by
 simp[sizeOf,typeInfo,h]
theorem iX{P:Program}{t:Nat}{info:TypeInfo}{z:Value}(h:P.info? t=Zz info)(hz:info.zero=Zz z)(w:World):(zeroValue t).run P w = .ok z w:=by
 simp[zeroValue,typeInfo,h,hz]
theorem O3{k:IntKind}(hk:k ≠ .u8)(n:Int):ov k n = .int k n:=by cases k<;>first | rfl | exact absurd rfl hk
theorem g9{w:World}{p:bF}{k:IntKind}{n:Int}(h:k = .u8->0<=n/\n<256):bU w p (.int k n) (ov k n):=by
 by_cases hk:k = .u8
 ·subst hk;obtain⟨h0,h1⟩:=h rfl;have e:(Value.int .u8 n)=jZ (UInt8.ofNat n.toNat):=by
   unfold jZ;congr 1;rw[UInt8.toNat_ofNat'];omega
  rw[e];exact .u8
 ·rw[O3 hk];exact .int hk
theorem wrap_u8(n:Int):0<=IntKind.u8.wrap n/\IntKind.u8.wrap n<256:=by
 unfold IntKind.wrap;simp[IntKind.bits,IntKind.signed];omega
theorem Bu{w:World}{p:bF}{v:Value}{a:AV}(h:Fh v=Zz a):bU w p v a:=by
 unfold Fh at h;split at h
 ·cases h;exact .bool
 ·rename_i k n;split at h
  ·cases hc:(Zw (0<=n)&&Zw (n<256)) with
   | false=>simp[hc] at h
   | true =>
    rw[hc] at h;have h':AV.u8 (UInt8.ofNat n.toNat)=a:=by simpa using h
    subst h';simp at hc;exact g9 (k := .u8) fun _=>hc
  ·rename_i hk;cases h;exact .int fun e=>hk e
 ·cases h;exact .str rfl
 ·cases h;exact .dc
 ·cases h;exact .nv
 ·cases h;exact .Fb
 ·cases h;exact .xT
 ·cases h
theorem gp{w:World}{p:bF}:∀ {vs:List Value} {as:List AV},oU vs=Zz as->aZ (bU w p) vs as
 | [],as,h=>by simp[oU] at h;subst h;exact .nil
 | v::r,as,h=>by
  simp only[oU] at h;split at h
  ·rename_i a l h1 h2;cases h;exact .cons (Bu h1) (gp h2)
  ·cases h
section
variable {w:World} {p:bF} {g:Nat->Value} {u:Nat->Prop}
theorem Mt{v:Value}{a:AV}(h:O_ v=Zz a):bC w p g u v a:=by
 unfold O_ at h;split at h
 ·rename_i cs;cases hc:oU cs.toList with
  | none=>simp[hc] at h
  | some l =>
   simp[hc] at h;subst h;exact .inr (.inl (.inr ⟨cs,l,rfl,rfl,(gp hc).imp fun _ _ => .l_⟩))
 ·exact .inr (.inl (.inl (.l_ (Bu h))))
theorem bU.tB{v:Value}{a:AV}(h:bU w p v a):v.cells = #[v]/\v.oneCell'=Zn/\a.cells=[a]/\a.ea=Zn:=by
 cases h<;>simp[Value.cells,Value.oneCell',AV.cells,AV.ea,jZ]
theorem cR.tB{v:Value}{a:AV}(h:cR w p g u v a):v.cells = #[v]/\v.oneCell'=Zn/\a.cells=[a]/\a.ea=Zn:=by
 cases h with
 | l_ h=>exact h.tB
 | ptr=>simp[Value.cells,Value.oneCell',AV.cells,AV.ea]
 | kj=>simp[Value.cells,Value.oneCell',AV.cells,AV.ea]
 | row hu hs=>obtain⟨a,l,c,e⟩:=hs;rw[e];simp[Value.cells,Value.oneCell',AV.cells,AV.ea]
 | mp=>simp[Value.cells,Value.oneCell',AV.cells,AV.ea]
 | bK hu hs=>obtain⟨a,l,c,e⟩:=hs;rw[e];simp[Value.cells,Value.oneCell',AV.cells,AV.ea]
 | bN=>simp[Value.cells,Value.oneCell',AV.cells,AV.ea]
 | rD=>simp[Value.cells,Value.oneCell',AV.cells,AV.ea]
 | pre=>simp[Value.cells,Value.oneCell',AV.cells,AV.ea]
 | FX=>simp[Value.cells,Value.oneCell',AV.cells,AV.ea]
 | Cv=>simp[Value.cells,Value.oneCell',AV.cells,AV.ea]
theorem bC.cells{v:Value}{a:AV}(h:bC w p g u v a)(hc:a.cells.all AV.ea=Zn):aZ (cR w p g u) v.cells.toList a.cells:=by
 rcases h with rfl | (h | ⟨c4,cs,rfl,rfl,h⟩) | ⟨c4,cs,rfl,rfl,h⟩
 ·simp[AV.cells,AV.ea] at hc
 ·rw[h.tB.1,h.tB.2.2.1];exact .cons h .nil
 ·exact h
 ·simp[AV.cells,AV.ea] at hc
theorem aZ.one{vs:List Value}{cs:List AV}(h:aZ (cR w p g u) vs cs):∀ v∈vs,v.oneCell'=Zn:=by
 intro v hv;obtain⟨i,hi⟩:=List.getElem?_of_mem hv;have fY:i<cs.length:=by rw[<-h.len];exact(Zq.1 hi).1
 exact(h.each i v _ hi (Zb fY)).tB.2.1
theorem aZ.Ug{vs:List Value}{cs:List AV}(h:aZ (bU w p) vs cs):∀ v∈vs,v.oneCell'=Zn:=by
 intro v hv;obtain⟨i,hi⟩:=List.getElem?_of_mem hv;have fY:i<cs.length:=by rw[<-h.len];exact(Zq.1 hi).1
 exact(h.each i v _ hi (Zb fY)).tB.2.1
theorem bC.int{v:Value}{k:IntKind}{n:Int}(h:bC w p g u v (.int k n)):v = .int k n/\k ≠ .u8:=by
 rcases h with h | (h | ⟨c4,cs,_,h,_⟩) | ⟨c4,cs,_,h,_⟩<;>first | cases h
 rename_i h;cases h;exact⟨rfl,by assumption⟩
theorem bC.u8{v:Value}{b:UInt8}(h:bC w p g u v (.u8 b)):v=jZ b:=by
 rcases h with h | (h | ⟨c4,cs,_,h,_⟩) | ⟨c4,cs,_,h,_⟩<;>first | cases h
 rename_i h;cases h;rfl
theorem bC.bool{v:Value}{b:Bool}(h:bC w p g u v (.bool b)):v = .bool b:=by
 rcases h with h | (h | ⟨c4,cs,_,h,_⟩) | ⟨c4,cs,_,h,_⟩<;>first | cases h
 rename_i h;cases h;rfl
theorem bC.str{v:Value}{l:List UInt8}(h:bC w p g u v (.str l)):∃ s:ByteArray,v = .string s/\s.data.toList=l:=by
 rcases h with h | (h | ⟨c4,cs,_,h,_⟩) | ⟨c4,cs,_,h,_⟩<;>first | cases h
 rename_i h;cases h;exact⟨_,rfl,by assumption⟩
theorem bC.bs{v:Value}{l:List UInt8}(h:bC w p g u v (.bs l)):bU w p v (.bs l):=by
 rcases h with h | (h | ⟨c4,cs,_,h,_⟩) | ⟨c4,cs,_,h,_⟩<;>first | cases h
 assumption
theorem bC.sl{v:Value}{z:Nat}{l:List AV}(h:bC w p g u v (.sl z l)):bU w p v (.sl z l):=by
 rcases h with h | (h | ⟨c4,cs,_,h,_⟩) | ⟨c4,cs,_,h,_⟩<;>first | cases h
 assumption
theorem bC.dc{v:Value}(h:bC w p g u v .dc):∃ a,v = .slice a 0 0:=by
 rcases h with h | (h | ⟨c4,cs,_,h,_⟩) | ⟨c4,cs,_,h,_⟩<;>first | cases h
 rename_i h;cases h;exact⟨_,rfl⟩
theorem bC.row{v:Value}{k:Nat}(h:bC w p g u v (.row k)):u k/\v=g k/\∃ a l c,g k = .slice a l c:=by
 rcases h with h | (h | ⟨c4,cs,_,h,_⟩) | ⟨c4,cs,_,h,_⟩<;>first | cases h
 ·rename_i h;cases h
 ·exact⟨by assumption,rfl,by assumption⟩
theorem bC.ptr{v:Value}{k off:Nat}(h:bC w p g u v (.ptr k off)):u k/\∃ β,g k = .pointer (Zz ⟨β,0,none⟩)/\v = .pointer (Zz ⟨β,off,none⟩):=by
 rcases h with h | (h | ⟨c4,cs,_,h,_⟩) | ⟨c4,cs,_,h,_⟩<;>first | cases h
 ·rename_i h;cases h
 ·exact⟨by assumption,_,by assumption,rfl⟩
theorem bC.kj{v:Value}{k i sz off:Nat}(h:bC w p g u v (.kj k i sz off)):u k/\∃ β,bP (g k)=Zz β/\v = .pointer (Zz ⟨β,i*sz+off,none⟩):=by
 rcases h with h | (h | ⟨c4,cs,_,h,_⟩) | ⟨c4,cs,_,h,_⟩<;>first | cases h
 ·rename_i h;cases h
 ·exact⟨by assumption,_,by assumption,rfl⟩
theorem bC.bK{v:Value}{k e sz:Nat}(h:bC w p g u v (.bK k e sz)):u k/\v=g k/\∃ a l c,g k = .slice a l c:=by
 rcases h with h | (h | ⟨c4,cs,_,h,_⟩) | ⟨c4,cs,_,h,_⟩<;>first | cases h
 ·rename_i h;cases h
 ·exact⟨by assumption,rfl,by assumption⟩
theorem bC.mp{v:Value}{k:Nat}(h:bC w p g u v (.mp k)):u k/\∃ β,g k = .map (Zz β)/\v = .map (Zz β):=by
 rcases h with h | (h | ⟨c4,cs,_,h,_⟩) | ⟨c4,cs,_,h,_⟩<;>first | cases h
 ·rename_i h;cases h
 ·exact⟨by assumption,_,by assumption,rfl⟩
theorem bC.kG{v:Value}{cs:List AV}(h:bC w p g u v (.kG cs)):bU w p v (.kG cs):=by
 rcases h with h | (h | ⟨c4,cs,_,h,_⟩) | ⟨c4,cs,_,h,_⟩<;>first | cases h
 assumption
theorem bC.rD{v:Value}{k off:Nat}(h:bC w p g u v (.rD k off)):u k/\∃ β j b,g k = .pointer (Zz ⟨b,0,none⟩)/\v = .pointer (Zz ⟨β,j,none⟩)/\w.cell? ⟨β,j,none⟩=Zz (.pointer (Zz ⟨b,off,none⟩)):=by
 rcases h with h | (h | ⟨c4,cs,_,h,_⟩) | ⟨c4,cs,_,h,_⟩<;>first | cases h
 ·rename_i h;cases h
 ·rename_i hp hu hg hc;exact⟨by assumption,_,_,_,by assumption,rfl,by assumption⟩
theorem bC.bN{v:Value}{k:Nat}{iF:List Nat}(h:bC w p g u v (.bN k iF)):u k/\∃ β b cap,g k = .pointer (Zz ⟨b,0,none⟩)/\v = .slice (Zz ⟨β,0,none⟩) iF.length cap/\∀ (j off:Nat),iF[j]? = Zz off->j<p β/\w.cell? ⟨β,j,none⟩=Zz (.pointer (Zz ⟨b,off,none⟩)):=by
 rcases h with h | (h | ⟨c4,cs,_,h,_⟩) | ⟨c4,cs,_,h,_⟩<;>first | cases h
 ·rename_i h;cases h
 ·exact⟨by assumption,_,_,_,by assumption,rfl,by assumption⟩
theorem bC.fn{v:Value}{f:Nat}(h:bC w p g u v (.fn f)):v = .func (.func f) #[] #[]:=by
 rcases h with h | (h | ⟨c4,cs,_,h,_⟩) | ⟨c4,cs,_,h,_⟩<;>first | cases h
 rename_i h;cases h;rfl
theorem bC.Cv{v:Value}{f:Nat}{fs cs:List (Nat×Nat)}(h:bC w p g u v (.Cv f fs cs)):∃ vs us:Array Value,v = .func (.func f) vs us/\aZ (bC w p g u) vs.toList (lT fs)/\aZ (bC w p g u) us.toList (lT cs):=by
 have key:∀ {vs:Array Value} {fs:List (Nat×Nat)},vs.size=fs.length->(∀ (j k off:Nat),fs[j]? = Zz (k,off)->u k/\∃ β,g k = .pointer (Zz ⟨β,0,none⟩)/\vs[j]? = Zz (.pointer (Zz ⟨β,off,none⟩)))->aZ (bC w p g u) vs.toList (lT fs):=by
  intro vs fs h1 h2;refine⟨by simp[lT,h1],fun i v c hv hc=> ?_⟩;simp only[lT,List.getElem?_map,Option.map_eq_some_iff] at hc;obtain⟨⟨k,off⟩,hj,rfl⟩:=hc;obtain⟨hu,β,hg,hx⟩:=h2 i k off hj;have:v = .pointer (Zz ⟨β,off,none⟩):=by
   have A4:vs[i]? = Zz v:=by simpa using hv
   rw[hx] at A4;cases A4;rfl
  subst this;exact .inr (.inl (.inl (.ptr hu hg)))
 rcases h with h | (h | ⟨c4,cs,_,h,_⟩) | ⟨c4,cs,_,h,_⟩
 ·cases h
 ·cases h with
  | l_ h=>cases h
  | Cv h1 h2 hf hc=>exact⟨_,_,rfl,key h1 hf,key h2 hc⟩
 ·cases h
 ·cases h
theorem bC.pre{v:Value}{k n:Nat}(h:bC w p g u v (.pre k n)):u k/\∃ β l cap,g k = .slice (Zz ⟨β,0,none⟩) l cap/\n<=l/\v = .slice (Zz ⟨β,0,none⟩) n cap:=by
 rcases h with h | (h | ⟨c4,cs,_,h,_⟩) | ⟨c4,cs,_,h,_⟩<;>first | cases h
 ·rename_i h;cases h
 ·exact⟨by assumption,_,_,_,by assumption,by assumption,rfl⟩
theorem bC.FX{v:Value}{k m:Nat}(h:bC w p g u v (.FX k m)):u k/\∃ β l cap a,g k = .slice (Zz ⟨β,0,none⟩) l cap/\m<=l/\(m=l\/a=Zz ⟨β,m,none⟩)/\v = .slice a (l-m) (cap-m):=by
 rcases h with h | (h | ⟨c4,cs,_,h,_⟩) | ⟨c4,cs,_,h,_⟩<;>first | cases h
 ·rename_i h;cases h
 ·exact⟨by assumption,_,_,_,_,by assumption,by assumption,by assumption,rfl⟩
theorem bC.agg{v:Value}{cs:List AV}(h:bC w p g u v (.agg cs)):∃ c4,v = .agg c4/\aZ (cR w p g u) c4.toList cs:=by
 rcases h with h | (h | ⟨c4,jx,rfl,h,hc⟩) | ⟨c4,cs,_,h,_⟩
 ·cases h
 ·cases h with | l_ h=>cases h
 ·cases h;exact⟨c4,rfl,hc⟩
 ·cases h
theorem bC.aQ{v:Value}{as:List AV}(h:bC w p g u v (.aQ as)):∃ c4,v = .tuple c4/\aZ (wI w p g u) c4.toList as:=by
 rcases h with h | (h | ⟨c4,jx,rfl,h,hc⟩) | ⟨c4,ZP,rfl,h,hc⟩
 ·cases h
 ·cases h with | l_ h=>cases h
 ·cases h
 ·cases h;exact⟨c4,rfl,hc⟩
theorem bU.v{v:Value}{a:AV}(h:bU w p v a):bC w p g u v a := .inr (.inl (.inl (.l_ h)))
theorem cR.v{v:Value}{a:AV}(h:cR w p g u v a):bC w p g u v a := .inr (.inl (.inl h))
end
end Go.Abs
/- Operations on memory: new blocks, loads, stores. -/
namespace Go.Abs
section
variable {P:Program} {B:Nat} {M:Nat->Prop} {w0:World} {p0:bF} {w:World} {p:bF} {g:Nat->Value}
def Good(B:Nat)(M:Nat->Prop)(w0:World)(p0:bF)(w:World)(p:bF)(g:Nat->Value)(st:Nat->bH)(v:AV)(st':Nat->bH)(r:Result Value):Prop :=
 ∃ v' w' p' g',r = .ok v' w'/\cg B M w0 p0 w' p' g' st'/\cX w p g (used st) w' p' g' (used st')/\bC w' p' g' (used st') v' v
theorem Good.same{st:Nat->bH}{v:AV}{v':Value}{r:Result Value}(h:cg B M w0 p0 w p g st)(hr:r = .ok v' w)(hv:bC w p g (used st) v' v):Good B M w0 p0 w p g st v st r :=
 ⟨v',w,p,g,hr,h,cX.refl,hv⟩
theorem dY(w:World)(o:Obj){β:Nat}(h:β<w.heap.size):(w.alloc o).heap[β]? = w.heap[β]? := Go.RowKit.Below.heap_alloc w o β h
theorem fa(w:World)(o:Obj):(w.alloc o).heap[w.heap.size]? = Zz o:=heap_alloc_new w o
theorem cg.lS{st:Nat->bH}(h:cg B M w0 p0 w p g st)(o:Obj):∀ β,(w.alloc o).heap.size<=β->p β=0:=fun β hβ=>h.mZ β (by simp at hβ;omega)
theorem vy{st:Nat->bH}{t:Nat}(h:cg B M w0 p0 w p g st)(ht:st t = .free)(c:Array Value)(e:TypeId){cs:List AV}(hc:aZ (cR w p g (used st)) c.toList cs) :
  Good B M w0 p0 w p g st (.ptr t 0) (cQ st t (.cells cs)) (.ok (.pointer (Zz ⟨w.heap.size,0,none⟩)) (w.alloc (.cells c e))):=by
 obtain⟨hs,hm⟩:=h.add (w':=w.alloc (.cells c e)) (p':=p) (t:=t) (b := .cells cs) (v := .pointer (Zz ⟨w.heap.size,0,none⟩)) ht (by simp) rfl rfl rfl (by simp)
  (fun β hβ=>⟨dY w _ hβ,rfl⟩) (fun _=>Zd _) (h.lS _) (fun β hβ=>by simp[bP] at hβ;omega)
  (fun hm=>⟨w.heap.size,c,e,by rw[aT],.inr h.size,fa w _,hc.imp fun _ _=>hm.C3,h.mZ _ (Zd _)⟩)
 refine⟨_,_,p,_,rfl,hs,hm,cR.v (.ptr ?_ (by rw[aT]))⟩;unfold used;rw[aT];simp
theorem EO{st:Nat->bH}{t:Nat}(h:cg B M w0 p0 w p g st)(ht:st t = .free)(c:Array Value)(e:TypeId){l:List UInt8}(hc:c.toList=l.map jZ) :
  Good B M w0 p0 w p g st (.ptr t 0) (cQ st t (.jm l Zv)) (.ok (.pointer (Zz ⟨w.heap.size,0,none⟩)) (w.alloc (.cells c e))):=by
 have hp:p w.heap.size=0:=h.mZ _ (Zd _);obtain⟨hs,hm⟩:=h.add (w':=w.alloc (.cells c e)) (p':=p) (t:=t) (b := .jm l Zv) (v := .pointer (Zz ⟨w.heap.size,0,none⟩)) ht (by simp) rfl rfl rfl (by simp)
  (fun β hβ=>⟨dY w _ hβ,rfl⟩) (fun _=>Zd _) (h.lS _) (fun β hβ=>by simp[bP] at hβ;omega)
  (fun hm=>⟨w.heap.size,c,e,by rw[aT],h.size,fa w _,hc,by omega,fun _=>hp⟩)
 refine⟨_,_,p,_,rfl,hs,hm,cR.v (.ptr ?_ (by rw[aT]))⟩;unfold used;rw[aT];simp
theorem Aq:∀ {as:List AV} {l:List UInt8},QZ as=Zz l->as=l.map .u8
 | [],l,h=>by simp[QZ] at h;subst h;rfl
 | a::r,l,h=>by
  cases a<;>simp[QZ] at h;obtain⟨l',h',rfl⟩:=h;rw[Aq h'];rfl
theorem wV{R:Value->AV->Prop}(hR:∀ v b,R v (.u8 b)->v=jZ b):∀ {vs:List Value} {l:List UInt8},aZ R vs (l.map .u8)->vs=l.map jZ
 | vs,[],h=>h.jR
 | vs,b::l,h=>by
  obtain⟨v,Rc,rfl,h1,h2⟩:=h.iK;rw[hR v b h1,wV hR h2];rfl
theorem Fy{v:Value}{b:UInt8}(h:bU w p v (.u8 b)):v=jZ b:=by cases h;rfl
theorem MT{t:Nat}{info:TypeInfo}{z:Value}(hi:P.info? t=Zz info)(hz:info.zero=Zz z) :
  (Instr.alloc t Zn (.tuple #[])).run P w = .ok (.pointer (Zz ⟨w.heap.size,0,none⟩)) (w.alloc (.cells z.cells t)):=by
 unfold Instr.alloc;simp[iX hi hz,newVar,newRow]
theorem MW{α:Type}{fr:Fr}{e t:Nat}{i:TI}(hi:fc P e=Zz i)(h:cg B M w0 p0 w p g fr.st){k:lO α}{r:α}
  (hk:(match i.kind with | .c4 _ _ Zn=>(QZ i.zero).bind fun l=>iJ fr t (.jm l Zv) (.ptr t 0) k | _=>iJ fr t (.cells i.zero) (.ptr t 0) k)=Zz r) :
  ∃ v st' fp,k v st' fp=Zz r/\Good B M w0 p0 w p g fr.st v st' ((Instr.alloc e Zn (.tuple #[])).run P w):=by
 obtain⟨info,z,h1,h2,h3,h4,h5,h6,h7,h8,h9,_⟩:=bz hi;rw[MT h1 h4];have hz:=gp (w:=w) (p:=p) h5;have key:iJ fr t (.cells i.zero) (.ptr t 0) k=Zz r->∃ v st' fp,k v st' fp=Zz r/\Good B M w0 p0 w p g fr.st v st' (.ok (.pointer (Zz ⟨w.heap.size,0,none⟩)) (w.alloc (.cells z.cells e))):=by
  intro hk;unfold iJ at hk;split at hk
  ·rename_i ht;exact⟨_,_,_,hk,vy h ht _ _ (hz.imp fun _ _ => .l_)⟩
  ·cases hk
 split at hk
 ·cases hl:QZ i.zero with
  | none=>simp[hl] at hk
  | some l =>
   simp only[hl,Option.bind_some,iJ] at hk;split at hk
   ·rename_i ht;refine⟨_,_,_,hk,EO h ht _ _ ?_⟩;rw[Aq hl] at hz;exact wV (fun v b=>Fy) hz
   ·cases hk
 ·exact key hk
theorem Sc{α:Type}{fr:Fr}{e t:Nat}{i:TI}{x:Value}{a:AV}(h:cg B M w0 p0 w p g fr.st)(hx:bC w p g (used fr.st) x a){k:lO α}{r:α}
  (hk:(bif a.cells.length==i.size&&a.cells.all AV.ea then iJ fr t (.cells a.cells) (.ptr t 0) k else none)=Zz r) :
  ∃ v st' fp,k v st' fp=Zz r/\Good B M w0 p0 w p g fr.st v st' ((Instr.box e x).run P w):=by
 cases hc:(a.cells.length==i.size&&a.cells.all AV.ea) with
 | false=>simp[hc] at hk
 | true =>
  simp only[hc,Qa6,iJ] at hk;simp only[Zp] at hc;split at hk
  ·rename_i ht;refine⟨_,_,_,hk,?_⟩;have:(Instr.box e x).run P w = .ok (.pointer (Zz ⟨w.heap.size,0,none⟩)) (w.alloc (.cells x.cells e)):=by
    unfold Instr.box;simp[newVar,newRow]
   rw[this];exact vy h ht _ _ (hx.cells hc.2)
  ·cases hk
theorem eL(β off j:Nat):(⟨β,off,none⟩:Addr).add j=⟨β,off+j,none⟩:=by unfold Addr.add;split<;>simp_all
theorem uA{t:Nat}{i:TI}(hi:fc P t=Zz i){β off:Nat}{vs:List Value}(hl:vs.length=i.size\/(da i.kind=Zv/\0<vs.length))
  (hc:∀ j v,vs[j]? = Zz v->w.cell? ⟨β,off+j,none⟩=Zz v) :
  (loadVar t ⟨β,off,none⟩).run P w = .ok (if da i.kind then .agg vs.toArray else vs.headD undef) w\/vs=[]:=by
 obtain⟨info,z,h1,h2,h3,h4,h5,h6,h7,h8,h9,_⟩:=bz hi;cases hk:da i.kind with
 | true =>
  left;have sM:vs.length=i.size:=by rcases hl with hl | hl;exact hl;rw[hk] at hl;cases hl.1
  have WJ:=run_loadCells_list (P:=P) w ⟨β,off,none⟩ vs (fun j v hj=>by rw[eL];exact hc j v hj);rw[sM,<-h2] at WJ;simp[loadVar,pf h8,hk,run_sizeOf h1,WJ]
 | false =>
  cases vs with
  | nil=>exact .inr rfl
  | cons v vs =>
   left;have:=hc 0 v rfl;simp[loadVar,pf h8,hk];rw[show off=off+0 from rfl,this]
def tj(w:World)(p:bF)(g:Nat->Value)(st:Nat->bH)(v:AV)(r:Result Value):Prop:=∃ v',r = .ok v' w/\bC w p g (used st) v' v
theorem tj.same{st:Nat->bH}{v:AV}{v':Value}{r:Result Value}(hr:r = .ok v' w)(hv:bC w p g (used st) v' v):tj w p g st v r:=⟨v',hr,hv⟩
theorem tj.mJ{st:Nat->bH}{v:AV}{r:Result Value}(h:cg B M w0 p0 w p g st)(hg:tj w p g st v r):Good B M w0 p0 w p g st v st r:=by
 obtain⟨v',hr,hv⟩:=hg;exact Good.same h hr hv
theorem oc{α:Type}{st:Nat->bH}{t:Nat}{i:TI}(hi:fc P t=Zz i)(h:cg B M w0 p0 w p g st){β off:Nat}{vs:List Value}{cs:List AV}(hcs:aZ (cR w p g (used st)) vs cs)
  (hc:∀ j v,vs[j]? = Zz v->w.cell? ⟨β,off+j,none⟩=Zz v) {k:AV->Option α} {r:α} (hk:loadCells i cs k=Zz r) :
  ∃ v,k v=Zz r/\tj w p g st v ((loadVar t ⟨β,off,none⟩).run P w):=by
 unfold loadCells at hk;cases hb:Zh i.size cs.length with
 | false=>simp[hb] at hk
 | true =>
  simp only[hb,Qa6] at hk;have hle:i.size<=cs.length:=Zu hb;split at hk
  ·rename_i s7;refine⟨_,hk,?_⟩;have h1:=uA (P:=P) (w:=w) hi (β:=β) (off:=off) (vs:=vs.take i.size) (.inl (by simp[hcs.len];omega)) (fun j v hj=>by
    rw[Zj] at hj;split at hj
    ·exact hc j v hj
    ·cases hj)
   have Tl:(loadVar t ⟨β,off,none⟩).run P w = .ok (.agg (vs.take i.size).toArray) w:=by
    rcases h1 with h1 | h1
    ·rw[h1,s7];rfl
    ·obtain⟨info,z,a1,a2,a3,a4,a5,a6,a7,a8,a9,_⟩:=bz hi;have hz:i.size=0:=by
      have:=Qb5 List.length h1;rw[List.length_take,hcs.len,List.length_nil] at this;omega
     have WJ:=run_loadCells_list (P:=P) w ⟨β,off,none⟩ [] (fun j v hj=>by simp at hj);simp only[List.length_nil] at WJ;rw[hz] at a2;simp[loadVar,pf a8,s7,run_sizeOf a1,a2,WJ,hz]
   exact tj.same Tl (.inr (.inl (.inr ⟨_,_,rfl,rfl,by simpa using hcs.take i.size⟩)))
  ·rename_i s7;cases cs with
   | nil=>simp at hk
   | cons c cs =>
    obtain⟨v,Rc,rfl,hv,_⟩:=hcs.iK;refine⟨_,hk,?_⟩;have h1:=uA (P:=P) (w:=w) hi (β:=β) (off:=off) (vs:=v::Rc) (.inr ⟨s7,by simp⟩) hc;rcases h1 with h1 | h1
    ·rw[s7] at h1;exact tj.same h1 (cR.v hv)
    ·cases h1
theorem Gg{R:Value->AV->Prop}{vs:List Value}{els:List AV}{sz:Nat}(h:aZ R vs (els.flatMap AV.cells))(fP:∀ x∈els,x.cells.length=sz){j:Nat}{x:AV}(hj:els[j]? = Zz x)(off:Nat) :
  aZ R ((vs.drop (j*sz+off)).take (sz-off)) (x.cells.drop off):=by
 have hx:=fP x (List.mem_of_getElem? hj);have LY:j<els.length:=(Zq.1 hj).1;have hl:=h.len;rw[jo fP] at hl;have AW:(j+1)*sz<=els.length*sz:=Zm sz LY;rw[Yy] at AW;refine⟨?_,fun i v c hv hc=> ?_⟩
 ·rw[List.length_take,List.length_drop,List.length_drop,hx];omega
 ·rw[Zj] at hv;split at hv
  ·rw[Yx] at hv hc;have:=tR fP hj hc;rw[Nat.add_assoc] at hv;exact h.each _ v c hv this
  ·cases hv
theorem uC{α:Type}{E:Env}(ft:∀ t i,E.ty t=Zz i->fc P t=Zz i){fr:Fr}{t:Nat}{i:TI}(hi:fc P t=Zz i)(h:cg B M w0 p0 w p g fr.st){x:Value}{a:AV}(hx:bC w p g (used fr.st) x a){k:lO α}{r:α}(hk:kh E fr i a k=Zz r) :
  ∃ v fp,k v fr.st fp=Zz r/\tj w p g fr.st v ((Instr.loadAt t x).run P w):=by
 unfold kh at hk;split at hk
 ·rename_i b off;obtain⟨hu,β,hg,rfl⟩:=hx.ptr;have hb:=h.ns b;split at hk
  ·rename_i cs dC;rw[dC] at hb;obtain⟨β',c,e,h1,h2,h3,h4,h5⟩:=hb;have:β'=β:=by rw[h1] at hg;cases hg;rfl
   subst this;obtain⟨v,sL,Q6⟩:=oc (P:=P) hi h (β:=β') (off:=off) (h4.drop off) (fun j v hj=>by
    rw[fz h3];simpa using hj) hk
   exact⟨v,_,sL,by simpa [Instr.loadAt,Instr.sureAddr] using Q6⟩
  ·cases hk
 ·rename_i cs;have hr:=hx.kG;cases hr with
  | kG vs hcell mM =>
   rename_i β off;obtain⟨v,sL,Q6⟩:=oc (P:=P) hi h (β:=β) (off:=off) (vs:=(List.range cs.length).map vs) (cs:=cs) ⟨by simp,fun j v c hv hc=>by
     have hj:j<cs.length:=(Zq.1 hc).1;simp[hj] at hv;subst hv;exact .l_ (mM j c hc)⟩ (fun j v hj=>by
     have IZ:j<cs.length:=by have:=(Zq.1 hj).1;simpa using this
     simp[IZ] at hj;subst hj;exact(hcell j _ (Zb IZ)).2) hk
   exact⟨v,_,sL,by simpa [Instr.loadAt,Instr.sureAddr] using Q6⟩
 ·rename_i b off;obtain⟨hu,β,j,b',hg,rfl,hc⟩:=hx.rD;split at hk
  ·rename_i e fh;obtain⟨fP,bq⟩:=aM hk;have W3:=Zx fP;refine⟨_,_,bq,?_⟩;have s7:da i.kind=Zv:=by rw[fh];rfl
   have h1:=uA (P:=P) (w:=w) hi (β:=β) (off:=j) (vs:=[.pointer (Zz ⟨b',off,none⟩)]) (.inr ⟨s7,by simp⟩) (fun q v hq=>by
    cases q with
    | zero=>simp at hq;subst hq;simpa using hc
    | succ q=>simp at hq)
   rcases h1 with h1 | h1
   ·rw[s7] at h1;exact tj.same (by simpa [Instr.loadAt,Instr.sureAddr] using h1) (cR.v (.ptr hu hg))
   ·cases h1
  ·cases hk
 ·rename_i b j sz off;obtain⟨hu,β,hg,rfl⟩:=hx.kj;have hb:=h.ns b;have key:∀ (l:List UInt8) (c:Array Value) (e:TypeId) (n:Nat),w.heap[β]? = Zz (.cells c e (0,0))->(c.toList.take n=l.map jZ)->aD (Zk j l.length&&Zy off 0&&Zy sz 1 && !da i.kind) (k (.u8 (l.getD j 0)) fr.st ⟨[b],[]⟩)=Zz r ->
    ∃ v fp,k v fr.st fp=Zz r/\tj w p g fr.st v ((Instr.loadAt t (.pointer (Zz ⟨β,j*sz+off,none⟩))).run P w):=by
   intro l c e n hh hc bq;obtain⟨eg,cZ⟩:=aM bq;simp only[Zp,Bool.not_eq_true'] at eg;obtain⟨⟨⟨hj,ho⟩,hs⟩,s7⟩:=eg;have fY:j<l.length:=Zu hj;have Js:=Zx ho;have hs':=Zx hs;subst Js;subst hs';refine⟨_,_,cZ,tj.same (v':=jZ (l.getD j 0)) ?_ (bU.v .u8)⟩;have hcell:w.cell? ⟨β,j,none⟩=Zz (jZ (l.getD j 0)):=by
    rw[fz hh];have h1:(l.map jZ)[j]? = Zz (jZ (l.getD j 0)):=by simp[fY]
    rw[<-hc,Zj] at h1;split at h1
    ·simpa using h1
    ·cases h1
   obtain⟨info,z,a1,a2,a3,a4,a5,a6,a7,a8,a9,_⟩:=bz hi;simp[Instr.loadAt,Instr.sureAddr,loadVar,pf a8,s7,hcell]
  split at hk
  ·rename_i e l iG dC;rw[dC] at hb;obtain⟨⟨hlen,⟨hn,a,hv⟩ | ⟨β',cap,j5,hv,h0,hB,hh,sN,zu,hcs,gC⟩⟩,_⟩:=hb
   ·rw[hv] at hg;cases a<;>simp[bP] at hg
   ·rw[hv] at hg;have:β'=β:=by simp[bP] at hg;exact hg.2
    subst this;exact key l j5 e _ hh gC hk
  ·rename_i l iG dC;rw[dC] at hb;obtain⟨β',c,e,h1,h2,h3,h4,h5⟩:=hb;rw[h1] at hg;have:β'=β:=by simp[bP] at hg;exact hg
   subst this;exact key l c e c.size h3 (by rw[List.take_of_length_le (by simp)];exact h4) hk
  ·rename_i e z l iG dC;rw[dC] at hb;split at hk
   ·rename_i ei jc;obtain⟨eg,bq⟩:=aM hk;simp only[Zp] at eg;have fY:j<l.length:=Zu eg.1;have hz:=Zx eg.2;subst hz;have cZ:=jE bq;obtain⟨sO,fP,vs,⟨hlen,⟨hn,a,hv⟩ | ⟨β',cap,j5,hv,h0,hB,hh,sN,zu,hcs,gC⟩⟩,dK,hp⟩:=hb
    ·omega
    ·rw[hv] at hg;have:β'=β:=by simp[bP] at hg;exact hg.2
     subst this;have tV:l[j]? = Zz (l.getD j .undef):=by simp[fY]
     have RF:=Gg (dK.imp fun _ _ hh=>cR.l_ (g:=g) (u:=used fr.st) hh) fP tV off;obtain⟨v,sL,Q6⟩:=oc (P:=P) hi h (β:=β') (off:=j*z+off) RF (fun q v hq=>by
      rw[Zj] at hq;split at hq
      ·rw[Yx,<-gC,Zj] at hq;split at hq
       ·rw[fz hh];simpa using hq
       ·cases hq
      ·cases hq) cZ
     exact⟨v,_,sL,by simpa [Instr.loadAt,Instr.sureAddr] using Q6⟩
   ·cases hk
  ·rename_i e z l dC;rw[dC] at hb;split at hk
   ·rename_i ei jc;obtain⟨eg,bq⟩:=aM hk;simp only[Zp] at eg;have fY:j<l.length:=Zu eg.1;have hz:=Zx eg.2;subst hz;have cZ:=jE bq;obtain⟨β',cap,hv,hB,sO,fP,h0,sN,zu,hp,j5,vs,hh,hcs,hlen,gC,dK⟩:=hb
    ·rw[hv] at hg;have:β'=β:=by simp[bP] at hg;exact hg.2
     subst this;have tV:l[j]? = Zz (l.getD j .undef):=by simp[fY]
     have RF:=Gg (dK.imp fun _ _ hh=>cR.l_ (g:=g) (u:=used fr.st) hh) fP tV off;obtain⟨v,sL,Q6⟩:=oc (P:=P) hi h (β:=β') (off:=j*z+off) RF (fun q v hq=>by
      rw[Zj] at hq;split at hq
      ·rw[Yx,<-gC,Zj] at hq;split at hq
       ·rw[fz hh];simpa using hq
       ·cases hq
      ·cases hq) cZ
     exact⟨v,_,sL,by simpa [Instr.loadAt,Instr.sureAddr] using Q6⟩
   ·cases hk
  ·cases hk
 ·cases hk
theorem J7{α:Type}{E:Env}(ft:∀ t i,E.ty t=Zz i->fc P t=Zz i){fr:Fr}{t:Nat}{i:TI}(hi:fc P t=Zz i)(h:cg B M w0 p0 w p g fr.st){x:Value}{a:AV}(hx:bC w p g (used fr.st) x a){k:lO α}{r:α}(hk:kh E fr i a k=Zz r) :
  ∃ v fp,k v fr.st fp=Zz r/\Good B M w0 p0 w p g fr.st v fr.st ((Instr.loadAt t x).run P w):=by
 obtain⟨v,fp,h1,h2⟩:=uC ft hi h hx hk;exact⟨v,fp,h1,h2.mJ h⟩
end
end Go.Abs
/- Operations on numbers, truth values and strings; stores. -/
namespace Go.Abs
section
variable {P:Program} {B:Nat} {M:Nat->Prop} {w0:World} {p0:bF} {w:World} {p:bF} {g:Nat->Value} {u:Nat->Prop}
theorem gZ{α:Type}{x y:Value}{a b:AV}(hx:bC w p g u x a)(hy:bC w p g u y b){k:IntKind->Int->Int->Option α}{r:α}(h:iI a b k=Zz r) :
  ∃ kd n m,x = .int kd n/\y = .int kd m/\k kd n m=Zz r/\(kd = .u8->(0<=n/\n<256)/\(0<=m/\m<256)):=by
 unfold iI at h;split at h
 ·rename_i k1 n k2 m;obtain⟨rfl,h1⟩:=hx.int;obtain⟨rfl,h2⟩:=hy.int;cases he:(k1==k2) with
  | false=>simp[he] at h
  | true =>
   simp[he] at h;have:k1=k2:=by simpa using he
   subst this;exact⟨k1,n,m,rfl,rfl,h,fun e=>absurd e h1⟩
 ·rename_i n m;have e1:=hx.u8;have e2:=hy.u8;subst e1;subst e2;refine⟨.u8,n.toNat,m.toNat,rfl,rfl,h,fun _=> ?_⟩;have:=n.toNat_lt;have:=m.toNat_lt
  omega
 ·cases h
theorem fJ(op:BinOp)(t:TypeId)(k:IntKind)(n m:Int)(h1:op ≠ .shl)(h2:op ≠ .shr) :
  binOp op t (.int k n) (.int k m)=(match op with
  | .add | .sub | .mul=>Op.intArith op k n m
  | .quo | .rem=>Op.intDiv op k n m
  | .and | .or | .xor | .andNot=>Op.intBits op k n m
  | _=>Op.intCmp op n m):=by
 cases op<;>first | exact absurd rfl h1 | exact absurd rfl h2 | simp[binOp]
theorem Lm{n m:Int}(hn:0<=n/\n<256):0<=n.tmod m/\n.tmod m<256:=by
 have h1:0<=n.tmod m:=Int.tmod_nonneg m hn.1;have h2:=Int.natAbs_tmod n m;have h3:=Nat.mod_le n.natAbs m.natAbs;omega
theorem u9{y:Value}{b:AV}(hy:bC w p g u y b){m:Int}(h:rH b=Zz m):∃ k,y = .int k m:=by
 unfold rH at h;split at h
 ·cases h;exact⟨_,hy.int.1⟩
 ·cases h;exact⟨_,hy.u8⟩
 ·cases h
theorem ju{y:Value}{b:AV}(hy:bC w p g u y b){m:Int}(h:idx b=Zz m):∃ k,y = .int k m:=by
 unfold idx at h;split at h
 ·cases h;exact⟨_,hy.int.1⟩
 ·cases h;exact⟨_,hy.u8⟩
 ·cases h
theorem Ry{n:Int}{j:Nat}(hn:0<=n/\n<256):0<=n.fdiv (2 ^ j)/\n.fdiv (2 ^ j)<256:=by
 have hp:(0:Int)<2 ^ j:=Int.pow_pos (by decide);rw[Int.fdiv_eq_ediv_of_nonneg _ (Int.le_of_lt hp)];have h1:=Int.ediv_nonneg hn.1 (Int.le_of_lt hp);have h2:=Int.ediv_le_self (2 ^ j) hn.1;omega
theorem rR{x y:Value}{a b:AV}(hx:bC w p g u x a)(hy:bC w p g u y b){c:Bool}(h:mB a b=Zz c) :
  (∃ k n m,x = .int k n/\y = .int k m/\c=(n==m))\/(∃ s t,x = .bool s/\y = .bool t/\c=(s==t))\/(∃ s t:ByteArray,x = .string s/\y = .string t/\c=(s.data.toList==t.data.toList)):=by
 unfold mB at h;split at h
 ·rename_i k1 n k2 m;obtain⟨rfl,_⟩:=hx.int;obtain⟨rfl,_⟩:=hy.int;cases he:(k1==k2) with
  | false=>simp[he] at h
  | true =>
   simp[he] at h;have:k1=k2:=by simpa using he
   subst this;exact .inl ⟨_,_,_,rfl,rfl,h.symm⟩
 ·rename_i n m;have e1:=hx.u8;have e2:=hy.u8;subst e1;subst e2;cases h;refine .inl ⟨_,_,_,rfl,rfl,?_⟩;rw[Bool.eq_iff_iff];simp;constructor
  ·rintro rfl;rfl
  ·intro h;exact UInt8.toNat.inj (by omega)
 ·have e1:=hx.bool;have e2:=hy.bool;subst e1;subst e2;cases h;exact .inr (.inl ⟨_,_,rfl,rfl,rfl⟩)
 ·obtain⟨s,rfl,hs⟩:=hx.str;obtain⟨t,rfl,ht⟩:=hy.str;cases h;exact .inr (.inr ⟨s,t,rfl,rfl,by rw[hs,ht]⟩)
 ·cases h
theorem zO{t:TypeId}{x y:Value}{a b:AV}(hx:bC w p g u x a)(hy:bC w p g u y b){c:Bool}(h:mB a b=Zz c)(hb:∀ s r,x = .bool s->y = .bool r->P.underlying t=Zz .bool) :
  (binOp .eql t x y).run P w = .ok (.bool c) w/\(binOp .neq t x y).run P w = .ok (.bool !c) w:=by
 rcases rR hx hy h with⟨k,n,m,rfl,rfl,rfl⟩ | ⟨s,r,rfl,rfl,rfl⟩ | ⟨s,r,rfl,rfl,rfl⟩
 ·constructor<;>simp[binOp,Op.intCmp,bne]
 ·have:=hb s r rfl rfl;have he:∀ d,(Op.equalIn (d+1) t (.bool s) (.bool r)).run P w = .ok (s==r) w:=fun d=>by simp[Op.equalIn,run_underlying this]
  constructor<;>(simp only[binOp];simp[Op.equal,Op.maxDepth,he 9999])
 ·constructor<;>simp[binOp,Op.stringOp,Lib.toList_data]
theorem EL{op:BinOp}{t:TypeId}{x y:Operand}{v v':Value}(h:∀ c4,v ≠ .agg c4)(h':v ≠ .nilIface):(eqGuard op t x y v v').run P w = .ok () w:=by
 cases op<;>first | rfl | (cases v<;>first | rfl | exact absurd rfl (h _) | exact absurd rfl h')
theorem HK{v:Value}{a:AV}(h:bC w p g u v a)(hc:a.ea=Zn):(∀ c4,v ≠ .agg c4)/\v ≠ .nilIface:=by
 rcases h with rfl | (h | ⟨c4,cs,rfl,rfl,h⟩) | ⟨c4,cs,rfl,rfl,h⟩
 ·simp[AV.ea] at hc
 ·cases h with
  | l_ h=>cases h<;>simp[jZ]
  | ptr=>simp
  | kj=>simp
  | row hu hs=>obtain⟨a,l,c,e⟩:=hs;rw[e];simp
  | mp=>simp
  | bK hu hs=>obtain⟨a,l,c,e⟩:=hs;rw[e];simp
  | bN=>simp
  | rD=>simp
  | pre=>simp
  | FX=>simp
  | Cv=>simp
 ·simp[AV.ea] at hc
 ·simp[AV.ea] at hc
theorem Sb{op:BinOp}{t:TypeId}{x y:Value}{a b v:AV}(hx:bC w p g u x a)(hy:bC w p g u y b)(h:ny op a b=Zz v)(ha:a.ea=Zn)
  (hb:∀ s r,x = .bool s->y = .bool r->P.underlying t=Zz .bool):∃ v',(binOp op t x y).run P w = .ok v' w/\bU w p v' v:=by
 unfold ny at h;split at h
 ·-- shl
  split at h
  ·rename_i k n m hm;obtain⟨rfl,hk⟩:=hx.int;obtain⟨k',rfl⟩:=u9 hy hm;cases h0:Zw (0<=m) with
   | false=>simp[h0,aD] at h
   | true =>
    simp[h0,aD] at h;subst h;have:¬ m<0:=by simp at h0;omega
    exact⟨_,by simp[binOp,Op.shift,this],.int hk⟩
  ·rename_i n m hm;have e:=hx.u8;subst e;obtain⟨k',rfl⟩:=u9 hy hm;cases h0:Zw (0<=m) with
   | false=>simp[h0,aD] at h
   | true =>
    simp[h0,aD] at h;subst h;have:¬ m<0:=by simp at h0;omega
    refine⟨_,?_,g9 fun _=>wrap_u8 _⟩;simp[jZ,binOp,Op.shift,this,IntKind.bits]
  ·cases h
 ·-- shr
  split at h
  ·rename_i k n m hm;obtain⟨rfl,hk⟩:=hx.int;obtain⟨k',rfl⟩:=u9 hy hm;cases h0:Zw (0<=m) with
   | false=>simp[h0,aD] at h
   | true =>
    simp[h0,aD] at h;subst h;have:¬ m<0:=by simp at h0;omega
    exact⟨_,by simp[binOp,Op.shift,this],.int hk⟩
  ·rename_i n m hm;have e:=hx.u8;subst e;obtain⟨k',rfl⟩:=u9 hy hm;cases h0:Zw (0<=m) with
   | false=>simp[h0,aD] at h
   | true =>
    simp[h0,aD] at h;subst h;have:¬ m<0:=by simp at h0;omega
    have hn:=n.toNat_lt;refine⟨_,?_,g9 fun _=>Ry ⟨by omega,by omega⟩⟩;simp[jZ,binOp,Op.shift,this,IntKind.bits]
  ·cases h
 ·-- add
  split at h
  ·rename_i s s';obtain⟨s,rfl,rfl⟩:=hx.str;obtain⟨s',rfl,rfl⟩:=hy.str;cases h0:Zw (s.data.toList.length+s'.data.toList.length<=4611686018427387904) with
   | false=>rw[h0] at h;cases h
   | true =>
    simp only[h0,aD,Qa6,Option.some.injEq] at h;subst h;have hle:s.size+s'.size<=4611686018427387904:=by simpa using Qa3 h0
    have:¬ ((s.size+s'.size:Nat):Int)>IntKind.i64.max:=by simp[IntKind.max,IntKind.signed,IntKind.bits];omega
    refine⟨.string (s++s'),?_,.str (by simp)⟩;simp only[binOp,Op.stringOp,this,if_false];rfl
  ·obtain⟨k,n,m,rfl,rfl,hk,hr⟩:=gZ hx hy h;cases hk;exact⟨_,by rw[fJ _ _ _ _ _ (by simp) (by simp)];simp[Op.intArith],g9 fun e=>by subst e;exact wrap_u8 _⟩
 ·obtain⟨k,n,m,rfl,rfl,hk,hr⟩:=gZ hx hy h;cases hk;exact⟨_,by rw[fJ _ _ _ _ _ (by simp) (by simp)];simp[Op.intArith],g9 fun e=>by subst e;exact wrap_u8 _⟩
 ·obtain⟨k,n,m,rfl,rfl,hk,hr⟩:=gZ hx hy h;cases hk;exact⟨_,by rw[fJ _ _ _ _ _ (by simp) (by simp)];simp[Op.intArith],g9 fun e=>by subst e;exact wrap_u8 _⟩
 ·-- quo
  obtain⟨k,n,m,rfl,rfl,hk,hr⟩:=gZ hx hy h;cases h0:(m==0) with
  | true=>simp[h0,aD] at hk
  | false =>
   simp[h0,aD] at hk;subst hk;have:m≠0:=by simpa using h0
   exact⟨_,by rw[fJ _ _ _ _ _ (by simp) (by simp)];simp[Op.intDiv,this],g9 fun e=>by subst e;exact wrap_u8 _⟩
 ·-- rem
  obtain⟨k,n,m,rfl,rfl,hk,hr⟩:=gZ hx hy h;cases h0:(m==0) with
  | true=>simp[h0,aD] at hk
  | false =>
   simp[h0,aD] at hk;subst hk;have:m≠0:=by simpa using h0
   exact⟨_,by rw[fJ _ _ _ _ _ (by simp) (by simp)];simp[Op.intDiv,this],g9 fun e=>by subst e;exact Lm (hr rfl).1⟩
 ·obtain⟨k,n,m,rfl,rfl,hk,hr⟩:=gZ hx hy h;cases hk;exact⟨_,by rw[fJ _ _ _ _ _ (by simp) (by simp)];rfl,g9 fun e=>by subst e;exact wrap_u8 _⟩
 ·obtain⟨k,n,m,rfl,rfl,hk,hr⟩:=gZ hx hy h;cases hk;exact⟨_,by rw[fJ _ _ _ _ _ (by simp) (by simp)];rfl,g9 fun e=>by subst e;exact wrap_u8 _⟩
 ·obtain⟨k,n,m,rfl,rfl,hk,hr⟩:=gZ hx hy h;cases hk;exact⟨_,by rw[fJ _ _ _ _ _ (by simp) (by simp)];rfl,g9 fun e=>by subst e;exact wrap_u8 _⟩
 ·-- lss
  split at h
  ·obtain⟨s,rfl,rfl⟩:=hx.str;obtain⟨s',rfl,rfl⟩:=hy.str;cases h;exact⟨_,by simp[binOp,Op.stringOp,Lib.toList_data],.bool⟩
  ·obtain⟨k,n,m,rfl,rfl,hk,hr⟩:=gZ hx hy h;cases hk;exact⟨_,by rw[fJ _ _ _ _ _ (by simp) (by simp)];rfl,.bool⟩
 ·split at h
  ·obtain⟨s,rfl,rfl⟩:=hx.str;obtain⟨s',rfl,rfl⟩:=hy.str;cases h;exact⟨.bool _,by simp only[binOp,Op.stringOp,Lib.toList_data];rfl,.bool⟩
  ·obtain⟨k,n,m,rfl,rfl,hk,hr⟩:=gZ hx hy h;cases hk;exact⟨_,by rw[fJ _ _ _ _ _ (by simp) (by simp)];rfl,.bool⟩
 ·-- gtr
  split at h
  ·obtain⟨s,rfl,rfl⟩:=hx.str;obtain⟨s',rfl,rfl⟩:=hy.str;cases h;exact⟨.bool _,by simp only[binOp,Op.stringOp,Lib.toList_data];rfl,.bool⟩
  ·obtain⟨k,n,m,rfl,rfl,hk,hr⟩:=gZ hx hy h;cases hk;exact⟨_,by rw[fJ _ _ _ _ _ (by simp) (by simp)];rfl,.bool⟩
 ·split at h
  ·obtain⟨s,rfl,rfl⟩:=hx.str;obtain⟨s',rfl,rfl⟩:=hy.str;cases h;exact⟨.bool _,by simp only[binOp,Op.stringOp,Lib.toList_data];rfl,.bool⟩
  ·obtain⟨k,n,m,rfl,rfl,hk,hr⟩:=gZ hx hy h;cases hk;exact⟨_,by rw[fJ _ _ _ _ _ (by simp) (by simp)];rfl,.bool⟩
 ·-- eql
  split at h
  ·simp[AV.ea] at ha
  ·cases hc:mB a b with
   | none=>simp[hc] at h
   | some c =>
    simp[hc] at h;subst h;exact⟨_,(zO hx hy hc hb).1,.bool⟩
 ·split at h
  ·simp[AV.ea] at ha
  ·cases hc:mB a b with
   | none=>simp[hc] at h
   | some c =>
    simp[hc] at h;subst h;exact⟨_,(zO hx hy hc hb).2,.bool⟩
 ·cases h
theorem Uw{op:UnOp}{x:Value}{a v:AV}(hx:bC w p g u x a)(h:Ti op a=Zz v):∃ v',(Op.unary op x).run P w = .ok v' w/\bU w p v' v:=by
 unfold Ti at h;split at h
 ·have e:=hx.bool;subst e;cases h;exact⟨_,rfl,.bool⟩
 ·obtain⟨rfl,hk⟩:=hx.int;cases h;exact⟨_,by simp[Op.unary,Op.intArith],.int hk⟩
 ·cases h
end
end Go.Abs
/- Values that go out of a frame; stores. -/
namespace Go.Abs
section
variable {P:Program} {B:Nat} {M:Nat->Prop} {w0:World} {p0:bF} {w:World} {p:bF} {g:Nat->Value}
theorem cg.relabel{st:Nat->bH}(h:cg B M w0 p0 w p g st){k:Nat}{b:bH}{p':bF}(hk:(st k).live)(hb:b.live)(hp:∀ β,bP (g k)≠Zz β->p' β=p β)
  (hle:∀ β,bP (g k)=Zz β->p β<=p' β) (hB0:∀ β,bP (g k)=Zz β->β<B->M β/\p' β=p β)
  (hB:cX w p g (used st) w p' g (used (cQ st k b))->nw w p' g (used (cQ st k b)) B M k b) :
  cg B M w0 p0 w p' g (cQ st k b)/\cX w p g (used st) w p' g (used (cQ st k b)):=by
 have LO:b ≠ .free:=fun e=>by rw[e] at hb;exact hb
 have hu:∀ j,used st j->used (cQ st k b) j:=fun j hj=>pY LO hj;have tY:∀ β,p β<=p' β:=fun β=>by
  by_cases e:bP (g k)=Zz β
  ·exact hle β e
  ·rw[hp β e];exact Zd _
 refine h.change rfl rfl rfl (Zd _) (fun j=>j=k) (fun β=>bP (g k)=Zz β) (fun j hj=>bY _ _ hj) hu (fun _ _=>rfl) (fun β _ hd=>⟨rfl,hp β hd⟩) (fun β hd hlB=>hB0 β hd hlB) tY (fun _ _ _=>rfl) ?_ ?_ ?_ ?_
 ·intro β hβ;rw[hp β (fun e=>by have:=(h.ns k).vi hk e;omega)];exact h.mZ β hβ
 ·intro j β hj hl hv hd;exact h.s6 j k β hj hl hk hv hd
 ·rintro j rfl;rw[aT];exact hB ⟨tY,fun _ _ _=>rfl,fun _ _=>rfl,hu⟩
 ·rintro j j' β rfl hU _ sM KY n_;rw[bY _ _ hU] at sM;exact h.s6 j j' β (Ne.symm hU) hk sM KY n_
def raise(p:bF)(o:Option Nat)(n:Nat):bF:=fun β=>if o=Zz β then n else p β
theorem gM{p:bF}{o:Option Nat}{n β:Nat}(h:o=Zz β):raise p o n β=n:=by simp[raise,h]
theorem nh{p:bF}{o:Option Nat}{n β:Nat}(h:o≠Zz β):raise p o n β=p β:=by simp[raise,h]
theorem Ph{st:Nat->bH}(h:cg B M w0 p0 w p g st){k e:Nat}{l:List UInt8}{iG:Bool}(hk:st k = .fb e l iG) :
  ∃ p',cg B M w0 p0 w p' g (cQ st k (.fb e l Zn))/\cX w p g (used st) w p' g (used (cQ st k (.fb e l Zn)))/\bU w p' (g k) (.bs l):=by
 have hb:=h.ns k;rw[hk] at hb;obtain⟨bK,hp⟩:=hb;have hB:∀ β,bP (g k)=Zz β->B<=β:=fun β hv=>by
  obtain⟨_,⟨_,a,hg⟩ | ⟨β',cap,j5,hg,h0,hB,_⟩⟩:=bK
  ·rw[hg] at hv;cases a<;>simp[bP] at hv
  ·rw[hg] at hv;have:β'=β:=by simp[bP] at hv;exact hv.2
   omega
 obtain⟨hs,hm⟩:=h.relabel (k:=k) (b := .fb e l Zn) (p':=raise p (bP (g k)) l.length) (by rw[hk];trivial) trivial (fun β hv=>nh hv)
  (fun β hv=>by rw[gM hv];exact(hp β hv).1) (fun β hv fY=>by have:=hB β hv;omega)
  (fun hm=>⟨bK,fun β hv=>⟨by rw[gM hv];exact Zd _,fun e=>by cases e⟩⟩)
 refine⟨_,hs,hm,?_⟩;obtain⟨hlen,⟨hn,a,hg⟩ | ⟨β,cap,j5,hg,h0,hB',hh,sN,zu,hcs,gC⟩⟩:=bK
 ·have:l=[]:=Yz hn;subst this;rw[hg];exact .bs 0 0 rfl (Zd _) (.inl rfl) (fun i b hi=>by simp at hi)
 ·rw[hg];refine .bs β 0 rfl sN (.inr rfl) fun i b hi=>⟨?_,?_⟩
  ·rw[gM (by simp[bP];omega)];have:=(Zq.1 hi).1;omega
  ·rw[fz hh];have h1:(l.map jZ)[i]? = Zz (jZ b):=by simp[hi]
   rw[<-gC,Zj] at h1;split at h1
   ·simpa using h1
   ·cases h1
theorem Pj{st:Nat->bH}(h:cg B M w0 p0 w p g st){k e z:Nat}{l:List AV}{iG:Bool}(hk:st k = .dz e z l iG) :
  ∃ p',cg B M w0 p0 w p' g (cQ st k (.dz e z l Zn))/\cX w p g (used st) w p' g (used (cQ st k (.dz e z l Zn)))/\bU w p' (g k) (.sl z l):=by
 have hb:=h.ns k;rw[hk] at hb;obtain⟨hz,fP,vs,bK,dK,hp⟩:=hb;have hB:∀ β,bP (g k)=Zz β->B<=β:=fun β hv=>by
  obtain⟨_,⟨_,a,hg⟩ | ⟨β',cap,j5,hg,h0,hB,_⟩⟩:=bK
  ·rw[hg] at hv;cases a<;>simp[bP] at hv
  ·rw[hg] at hv;have:β'=β:=by simp[bP] at hv;exact hv.2
   omega
 obtain⟨hs,hm⟩:=h.relabel (k:=k) (b := .dz e z l Zn) (p':=raise p (bP (g k)) (l.length*z)) (by rw[hk];trivial) trivial (fun β hv=>nh hv)
  (fun β hv=>by rw[gM hv];exact(hp β hv).1) (fun β hv fY=>by have:=hB β hv;omega)
  (fun hm=>⟨hz,fP,vs,bK,dK.imp fun _ _=>hm.vn,fun β hv=>⟨by rw[gM hv];exact Zd _,fun e=>by cases e⟩⟩)
 refine⟨_,hs,hm,?_⟩;have Tz:=jo fP;obtain⟨hlen,⟨hn,a,hg⟩ | ⟨β,cap,j5,hg,h0,hB',hh,sN,zu,hcs,gC⟩⟩:=bK
 ·have:l=[]:=Yz hn;subst this;rw[hg];exact .sl 0 0 (fun _=>undef) rfl (Zd _) (fun _ h=>by cases h) (.inl rfl) (fun i b hi=>by simp at hi) (fun i b hi=>by simp at hi)
 ·have IX:=dK.imp fun v c L6=>hm.vn L6;rw[hg] at IX ⊢;refine .sl β 0 (fun j=>vs.getD j undef) rfl sN fP (.inr rfl) (fun j c hj=>⟨?_,?_⟩) (fun j c hj=> ?_)
  ·rw[gM (by simp[bP];omega)];have:=(Zq.1 hj).1;omega
  ·obtain⟨v,hv,_⟩:=IX.get hj;rw[fz hh];have h1:=hv;rw[<-gC,Zj] at h1;split at h1
   ·simp[hv];simpa using h1
   ·cases h1
  ·obtain⟨v,hv,hr⟩:=IX.get hj;simp[hv];exact hr
def jV(w:World)(p:bF)(v:Value)(a:AV):Prop:=bU w p v a\/∃ c4 cs,v = .agg c4/\a = .agg cs/\aZ (bU w p) c4.toList cs
theorem jV.v{u:Nat->Prop}{v:Value}{a:AV}(h:jV w p v a):bC w p g u v a:=by
 rcases h with h | ⟨c4,cs,rfl,rfl,h⟩
 ·exact h.v
 ·exact .inr (.inl (.inr ⟨c4,cs,rfl,rfl,h.imp fun _ _ => .l_⟩))
theorem jV.mono{w':World}{p':bF}(hp:∀ β,p β<=p' β)(hc:∀ β i,i<p β->w'.cell? ⟨β,i,none⟩=w.cell? ⟨β,i,none⟩){v:Value}{a:AV}(h:jV w p v a):jV w' p' v a:=by
 rcases h with h | ⟨c4,cs,rfl,rfl,h⟩
 ·exact .inl (h.mono hp hc)
 ·exact .inr ⟨c4,cs,rfl,rfl,h.imp fun _ _ hh=>hh.mono hp hc⟩
theorem jV.cells{v:Value}{a:AV}(h:jV w p v a):aZ (bU w p) v.cells.toList a.cells:=by
 rcases h with h | ⟨c4,cs,rfl,rfl,h⟩
 ·rw[h.tB.1,h.tB.2.2.1];exact .cons h .nil
 ·exact h
def j8(st st':Nat->bH):Prop:=(∀ b cs,st b = .cells cs->st' b = .cells cs)/\∀ b e z l,st b = .iW e z l->st' b = .iW e z l
theorem j8.refl{st:Nat->bH}:j8 st st:=⟨fun _ _ h=>h,fun _ _ _ _ h=>h⟩
theorem j8.trans{a b c:Nat->bH}(h:j8 a b)(k:j8 b c):j8 a c:=⟨fun x cs hx=>k.1 x cs (h.1 x cs hx),fun x e z l hx=>k.2 x e z l (h.2 x e z l hx)⟩
theorem j8.cQ{st:Nat->bH}{r:Nat}{x:bH}(h:∀ cs,st r ≠ .cells cs)(h2:∀ e z l,st r ≠ .iW e z l):j8 st (Abs.cQ st r x) :=
 ⟨fun b cs hb=>by rw[bY _ _ (fun e=>by subst e;exact h cs hb)];exact hb,fun b e z l hb=>by rw[bY _ _ (fun q=>by subst q;exact h2 e z l hb)];exact hb⟩
theorem u_{α:Type}{st:Nat->bH}(h:cg B M w0 p0 w p g st){c:CT}{x:Value}{v:AV}(hx:bC w p g (used st) x v){k:AV->(Nat->bH)->FP->Option α}{r:α}(hk:Bx c v st k=Zz r) :
  ∃ a st' fp p',k a st' fp=Zz r/\cg B M w0 p0 w p' g st'/\cX w p g (used st) w p' g (used st')/\bU w p' x a/\j8 st st':=by
 unfold Bx at hk;split at hk
 ·obtain⟨a,rfl⟩:=hx.dc;exact⟨_,_,_,p,hk,h,cX.refl,.bs 0 0 rfl (Zd _) (.inl rfl) (fun i b hi=>by simp at hi),j8.refl⟩
 ·obtain⟨a,rfl⟩:=hx.dc;exact⟨_,_,_,p,hk,h,cX.refl,.sl 0 0 (fun _=>undef) rfl (Zd _) (fun _ h=>by cases h) (.inl rfl) (fun i b hi=>by simp at hi) (fun i b hi=>by simp at hi),j8.refl⟩
 ·rename_i r';obtain⟨hu,rfl,_⟩:=hx.row;split at hk
  ·rename_i e l iG dC;obtain⟨p',hs,hm,hr⟩:=Ph h dC;exact⟨_,_,_,p',hk,hs,hm,hr,j8.cQ (fun cs e=>by rw[dC] at e;cases e) (fun e z l q=>by rw[dC] at q;cases q)⟩
  ·rename_i e z l iG dC;obtain⟨p',hs,hm,hr⟩:=Pj h dC;exact⟨_,_,_,p',hk,hs,hm,hr,j8.cQ (fun cs e=>by rw[dC] at e;cases e) (fun e z l q=>by rw[dC] at q;cases q)⟩
  ·cases hk
 ·obtain⟨rfl,hn⟩:=hx.int;exact⟨_,_,_,p,hk,h,cX.refl,.int hn,j8.refl⟩
 ·have e:=hx.u8;subst e;exact⟨_,_,_,p,hk,h,cX.refl,.u8,j8.refl⟩
 ·have e:=hx.bool;subst e;exact⟨_,_,_,p,hk,h,cX.refl,.bool,j8.refl⟩
 ·obtain⟨s,rfl,hs⟩:=hx.str;exact⟨_,_,_,p,hk,h,cX.refl,.str hs,j8.refl⟩
 ·exact⟨_,_,_,p,hk,h,cX.refl,hx.bs,j8.refl⟩
 ·exact⟨_,_,_,p,hk,h,cX.refl,hx.sl,j8.refl⟩
 ·have:bU w p x .nv:=by
   rcases hx with hx | (hx | ⟨c4,cs,_,hx,_⟩) | ⟨c4,cs,_,hx,_⟩<;>first | cases hx
   assumption
  exact⟨_,_,_,p,hk,h,cX.refl,this,j8.refl⟩
 ·exact⟨_,_,_,p,hk,h,cX.refl,hx.kG,j8.refl⟩
 ·cases hk
theorem BR{α:Type}{st:Nat->bH}(h:cg B M w0 p0 w p g st){c:CT}{x:Value}{v:AV}(hx:bC w p g (used st) x v){k:AV->(Nat->bH)->FP->Option α}{r:α}(hk:Bx c v st k=Zz r) :
  ∃ a st' fp p',k a st' fp=Zz r/\cg B M w0 p0 w p' g st'/\cX w p g (used st) w p' g (used st')/\bU w p' x a:=by
 obtain⟨a,st',fp,p',h1,h2,h3,h4,_⟩:=u_ h hx hk;exact⟨a,st',fp,p',h1,h2,h3,h4⟩
theorem pV{α:Type}:∀ {hO:List CT} {vs:List AV} {xs:List Value} {st:Nat->bH} {p:bF},cg B M w0 p0 w p g st->aZ (cR w p g (used st)) xs vs->∀ {k:List AV->(Nat->bH)->FP->Option α} {r:α},
  nB hO vs st k=Zz r->∃ as st' fp p',k as st' fp=Zz r/\cg B M w0 p0 w p' g st'/\cX w p g (used st) w p' g (used st')/\aZ (bU w p') xs as/\j8 st st'
 | [],[],xs,st,p,h,hx,k,r,hk=>by
  simp only[nB] at hk;have:=hx.jR;subst this;exact⟨_,_,_,p,hk,h,cX.refl,.nil,j8.refl⟩
 | c::cs,v::vs,xs,st,p,h,hx,k,r,hk=>by
  simp only[nB] at hk;obtain⟨x,Q3,rfl,h1,h2⟩:=hx.iK;obtain⟨a,cH,f1,p1,cj,kM,lK,ql,Ac⟩:=u_ h h1.v hk;obtain⟨as,cf,f2,p2,bq,gU,mL,nJ,AY⟩:=pV kM (h2.imp fun _ _=>lK.C3) cj;exact⟨_,_,_,p2,bq,gU,lK.trans mL,.cons (mL.vn ql) nJ,Ac.trans AY⟩
 | [],_::_,_,_,_,_,_,_,_,hk=>by simp[nB] at hk
 | _::_,[],_,_,_,_,_,_,_,hk=>by simp[nB] at hk
theorem yc{α:Type}{st:Nat->bH}(h:cg B M w0 p0 w p g st){i:TI}{x:Value}{v:AV}(hx:bC w p g (used st) x v){k:AV->(Nat->bH)->FP->Option α}{r:α}(hk:out i v st k=Zz r) :
  ∃ a st' fp p',k a st' fp=Zz r/\cg B M w0 p0 w p' g st'/\cX w p g (used st) w p' g (used st')/\jV w p' x a/\j8 st st':=by
 unfold out at hk;split at hk
 ·obtain⟨c4,rfl,hc⟩:=hx.agg;obtain⟨as,st',fp,p',sL,hs,hm,hr,hp⟩:=pV h hc hk;exact⟨_,_,_,p',sL,hs,hm,.inr ⟨c4,as,rfl,rfl,hr⟩,hp⟩
 ·split at hk
  ·obtain⟨a,st',fp,p',sL,hs,hm,hr,hp⟩:=u_ h hx hk;exact⟨_,_,_,p',sL,hs,hm,.inl hr,hp⟩
  ·cases hk
 ·cases hk
theorem Ao{α:Type}{st:Nat->bH}(h:cg B M w0 p0 w p g st){i:TI}{x:Value}{v:AV}(hx:bC w p g (used st) x v){k:AV->(Nat->bH)->FP->Option α}{r:α}(hk:out i v st k=Zz r) :
  ∃ a st' fp p',k a st' fp=Zz r/\cg B M w0 p0 w p' g st'/\cX w p g (used st) w p' g (used st')/\jV w p' x a:=by
 obtain⟨a,st',fp,p',h1,h2,h3,h4,_⟩:=yc h hx hk;exact⟨a,st',fp,p',h1,h2,h3,h4⟩
def FZ(B:Nat)(M:Nat->Prop)(w0:World)(p0:bF)(w:World)(p:bF)(g:Nat->Value)(st:Nat->bH)(st':Nat->bH)(r:Result Unit):Prop :=
 ∃ w' p' g',r = .ok () w'/\cg B M w0 p0 w' p' g' st'/\cX w p g (used st) w' p' g' (used st')
theorem MU{β:Type}(c:List β)(j:Nat)(x:β)(h:j<c.length):c.take j++[x]++c.drop (j+1)=c.set j x:=by
 rw[List.set_eq_take_append_cons_drop,Qa1 h];simp
theorem qf{R:Value->AV->Prop}{vs us:List Value}{cs ds:List AV}(h:aZ R vs cs)(k:aZ R us ds)(off:Nat) :
  aZ R (vs.take off++us++vs.drop (off+us.length)) (place cs off ds):=by
 unfold place;rw[k.len];exact((h.take off).append k).append (h.drop _)
theorem o7{t:Nat}{i:TI}(hi:fc P t=Zz i){β off:Nat}{c:Array Value}{e:TypeId}(hh:w.heap[β]? = Zz (.cells c e (0,0))){v:Value}(hl:v.cells.size=i.size)(vU:off+i.size<=c.size)
  (h1:∀ x∈v.cells.toList,x.oneCell'=Zn) :
  (storeVar t ⟨β,off,none⟩ v).run P w = .ok () (w.setRow β (c.toList.take off++v.cells.toList++c.toList.drop (off+v.cells.toList.length)).toArray):=by
 obtain⟨info,z,a1,a2,a3,a4,a5,a6,a7,a8,a9,_⟩:=bz hi;have dC:=run_storeCells_at (P:=P) β off e v.cells.toList 0 c w hh (by simp;omega) h1;simp only[Nat.add_zero] at dC;simp[storeVar,run_sizeOf a1,a2,hl,dC]
theorem JS(a b:List AV)(off:Nat)(n:List AV)(h:off+n.length<=a.length):place (a++b) off n=place a off n++b:=by grind [place]
theorem HG(a b:List AV)(q:Nat)(n:List AV):place (a++b) (a.length+q) n=a++place b q n:=by
 unfold place;rw[List.take_append,List.drop_append,List.take_of_length_le (by omega),List.drop_of_length_le (by omega)];rw[show a.length+q-a.length=q by omega,show a.length+q+n.length-a.length=q+n.length by omega];simp
theorem AN{sz off:Nat}{news:List AV}:∀ {els:List AV} {j:Nat} {x x':AV},els[j]? = Zz x->(∀ y∈els,y.cells.length=sz)->x'.cells=place x.cells off news->off+news.length<=sz ->
  (els.set j x').flatMap AV.cells=place (els.flatMap AV.cells) (j*sz+off) news
 | [],j,x,x',h,_,_,_=>by simp at h
 | y::r,0,x,x',h,hs,hx,hf=>by
  simp at h;subst h;have hy:=hs y (by simp);rw[List.set_cons_zero,Zg,Zg,hx,Nat.zero_mul,Nat.zero_add,JS _ _ _ _ (by omega)]
 | y::r,j+1,x,x',h,hs,hx,hf=>by
  simp at h;have hy:=hs y (by simp);have ih:=AN h (fun z hz=>hs z (by simp[hz])) hx hf;rw[List.set_cons_succ,Zg,Zg,ih];rw[show(j+1)*sz+off=y.cells.length+(j*sz+off) by rw[hy,Yy];omega,HG]
theorem x3(cs:List AV)(off:Nat)(n:List AV)(h:off+n.length<=cs.length):(place cs off n).length=cs.length:=by
 unfold place;simp;omega
theorem yn{c:List Value}{n q:Nat}{us:List Value}(h:q+us.length<=n)(hn:n<=c.length):(c.take q++us++c.drop (q+us.length)).take n=(c.take n).take q++us++(c.take n).drop (q+us.length):=by
 apply List.ext_getElem?;intro i;simp only[Zj,List.getElem?_append,Yx,List.length_append,List.length_take];by_cases h1:i<n
 ·by_cases h2:i<q
  ·have e1:i<min q c.length+us.length:=by omega
   have e2:i<min q c.length:=by omega
   have e3:i<min q (min n c.length)+us.length:=by omega
   have e4:i<min q (min n c.length):=by omega
   simp[h1,h2,e1,e2,e3,e4]
  ·by_cases h3:i<q+us.length
   ·have e1:i<min q c.length+us.length:=by omega
    have e2:¬ i<min q c.length:=by omega
    have e3:i<min q (min n c.length)+us.length:=by omega
    have e4:¬ i<min q (min n c.length):=by omega
    simp[h1,e1,e2,e3,e4];congr 1;omega
   ·have e1:¬ i<min q c.length+us.length:=by omega
    have e3:¬ i<min q (min n c.length)+us.length:=by omega
    have e5:q+us.length+(i-(min q (min n c.length)+us.length))<n:=by omega
    simp[h1,e1,e3];rw[Qa1 (by omega)];congr 1;omega
 ·have e1:¬ i<min q (min n c.length)+us.length:=by omega
  simp[h1,e1];intro h5;omega
theorem HU{α:Type}{E:Env}(ft:∀ t i,E.ty t=Zz i->fc P t=Zz i){fr:Fr}{t:Nat}{i:TI}(hi:fc P t=Zz i)(h:cg B M w0 p0 w p g fr.st){x y:Value}{a b:AV}(hx:bC w p g (used fr.st) x a)(hy:bC w p g (used fr.st) y b){k:lO α}{r:α}
  (hk:nZ E fr i a b k=Zz r):∃ st' fp,k .undef st' fp=Zz r/\FZ B M w0 p0 w p g fr.st st' ((Instr.storeAt t x y).run P w):=by
 unfold nZ at hk;split at hk
 ·rename_i kk off;obtain⟨hu,β,hg,rfl⟩:=hx.ptr;have hb:=h.ns kk;split at hk
  ·rename_i cs dC;rw[dC] at hb;obtain⟨β',c,e,h1,h2,h3,h4,h5⟩:=hb;have:β'=β:=by rw[h1] at hg;cases hg;rfl
   subst this;obtain⟨eg,bq⟩:=cM hk;simp only[Zp,Qb1] at eg;obtain⟨⟨hlen,vU⟩,hcell⟩:=eg;have re:off+i.size<=cs.length:=Zu vU;have hyc:=hy.cells hcell;rw[u5 _ _ _ (by rw[hlen];exact re)] at bq;refine⟨_,_,bq,?_⟩;have fP:y.cells.size=i.size:=by have:=hyc.len;simp at this;omega
   have agC:c.size=cs.length:=by have:=h4.len;simpa using this
   have eB:=o7 (P:=P) (w:=w) hi h3 (v:=y) (off:=off) fP (by omega) hyc.one;obtain⟨hs,hm⟩:=h.modify (k:=kk) (b := .cells (place cs off b.cells)) (w':=w.setRow β' (c.toList.take off++y.cells.toList++c.toList.drop (off+y.cells.toList.length)).toArray) (p':=p) (β₀:=β') (by rw[dC];trivial) trivial (by rw[h1];rfl)
    rfl rfl rfl (by simp) (fun β hU=>⟨setRow_other w β' β _ hU,rfl⟩) (fun fY=>⟨by rcases h2 with h2 | h2;exact h2;omega,rfl⟩) (Zd _) (fun i hi=>by rw[h5] at hi;omega)
    (fun hm=>⟨β',_,e,h1,h2,setRow_heap w β' c _ e _ h3,by
     have:=qf h4 hyc off;simpa using this.imp fun _ _=>hm.C3,h5⟩)
   exact⟨_,p,g,by simpa [Instr.storeAt,Instr.sureAddr] using eB,hs,hm⟩
  ·cases hk
 ·rename_i kk j sz off;obtain⟨hu,β,hg,rfl⟩:=hx.kj;have hb:=h.ns kk;have key:∀ (l:List UInt8) (c:Array Value) (e:TypeId) (n:Nat) (iG:Bool) (mk:List UInt8->bH),w.heap[β]? = Zz (.cells c e (0,0))->c.toList.take n=l.map jZ->(iG=Zv->p β=0)->B<=β->(fr.st kk).live->(∀ l,(mk l).live) ->
    (∀ (xb:UInt8),j<l.length->iG=Zv->∀ (w':World),w'.heap[β]? = Zz (.cells (c.toList.set j (jZ xb)).toArray e (0,0))->∀ u',nw w' p g u' B M kk (mk (l.set j xb))) ->
    (b.pO fun x=>aD (Zk j l.length&&Zy off 0&&Zy sz 1&&Zy i.size 1 && !iG) (k .undef (cQ fr.st kk (mk (l.set j x))) ⟨[kk],[kk]⟩))=Zz r ->
    ∃ st' fp,k .undef st' fp=Zz r/\FZ B M w0 p0 w p g fr.st st' ((Instr.storeAt t (.pointer (Zz ⟨β,j*sz+off,none⟩)) y).run P w):=by
   intro l c e n iG mk hh gC hp RB xC TH aaw bq;unfold AV.pO at bq;split at bq
   ·rename_i _ xb;have hyv:=hy.u8;subst hyv;obtain⟨eg,cZ⟩:=aM bq;simp only[Zp,Bool.not_eq_true'] at eg;obtain⟨⟨⟨⟨hj,ho⟩,hs⟩,kM⟩,EX⟩:=eg;have fY:j<l.length:=Zu hj;have fP:i.size=1:=Zx kM;have Js:=Zx ho;have hs':=Zx hs;subst Js;subst hs';subst EX;have hjc:j<c.size:=by
     have:=Qb5 List.length gC;simp at this;omega
    have eB:=o7 (P:=P) (w:=w) hi hh (v:=jZ xb) (off:=j) (by simp[jZ,Value.cells,fP]) (by omega) (fun x hx=>by simp[jZ,Value.cells] at hx;subst hx;rfl);refine⟨_,_,cZ,?_⟩;have dK:(jZ xb).cells.toList=[jZ xb]:=rfl;rw[dK] at eB;simp only[List.length_singleton] at eB;rw[MU _ _ _ (by simpa using hjc)] at eB;obtain⟨hs,hm⟩:=h.modify (k:=kk) (b:=mk (l.set j xb)) (w':=w.setRow β (c.toList.set j (jZ xb)).toArray) (p':=p) (β₀:=β) xC (TH _) hg
     rfl rfl rfl (by simp) (fun β' hU=>⟨setRow_other w β β' _ hU,rfl⟩) (fun fY=>by omega) (Zd _) (fun i hi=>by rw[hp rfl] at hi;omega)
     (fun hm=>aaw xb fY rfl _ (setRow_heap w β c _ e _ hh) _)
    exact⟨_,p,g,by simpa [Instr.storeAt,Instr.sureAddr] using eB,hs,hm⟩
   ·cases bq
  split at hk
  ·rename_i e l iG dC;rw[dC] at hb;obtain⟨⟨hlen,⟨hn,a,hv⟩ | ⟨β',cap,j5,hv,h0,hB,hh,sN,zu,hcs,gC⟩⟩,hp⟩:=hb
   ·rw[hv] at hg;cases a<;>simp[bP] at hg
   ·have N':β'=β:=by rw[hv] at hg;simp[bP] at hg;exact hg.2
    subst N';refine key l j5 e _ iG (fun l => .fb e l Zv) hh gC ((hp β' hg).2) hB (by rw[dC];trivial) (fun _=>trivial) ?_ hk;intro xb fY EX w' Oz u';refine⟨⟨by simp,.inr ⟨β',cap,_,hv.trans (by simp),h0,hB,Oz,by simpa using sN,zu,?_,?_⟩⟩,fun β n_=> ?_⟩
    ·simpa using hcs
    ·simp only[List.length_set];rw[List.take_set,gC,List.map_set]
    ·rw[hg] at n_;cases n_;exact⟨by rw[(hp β' hg).2 EX];exact Nat.zero_le _,fun _=>(hp β' hg).2 EX⟩
  ·rename_i l iG dC;rw[dC] at hb;obtain⟨β',c,e,h1,h2,h3,h4,h5,h6⟩:=hb;have N':β'=β:=by rw[h1] at hg;simp[bP] at hg;exact hg
   subst N';refine key l c e c.size iG (fun l => .jm l Zv) h3 (by rw[List.take_of_length_le (by simp)];exact h4) h6 h2 (by rw[dC];trivial) (fun _=>trivial) ?_ hk;intro xb fY EX w' Oz u';refine⟨β',_,e,h1,h2,Oz,?_,by rw[h6 EX];exact Nat.zero_le _,fun _=>h6 EX⟩;show c.toList.set j (jZ xb)=_;rw[h4,List.map_set]
  ·rename_i e z l iG dC;split at hk
   ·rename_i ei jc;obtain⟨eg,bq⟩:=aM hk;simp only[Zp,Bool.not_eq_true'] at eg;obtain⟨⟨hj0,hz⟩,afq⟩:=eg;have OC:=Zx hz;subst OC;obtain⟨v',cH,f1,p1,cZ,kM,lK,ql⟩:=Ao h hy bq;have uU:=kM.ns kk;split at cZ
    ·rename_i e1 z1 l1 A2;have nI:=jE cZ;obtain⟨eg,yP⟩:=cM nI;simp only[Zp,Qb1] at eg;obtain⟨⟨⟨⟨Om,vU⟩,ko⟩,L9⟩,U7⟩:=eg;have T3:=Zx L9;subst T3;have re:=Zu vU;have zA:0<i.size:=Zu ko;have LY:j<l1.length:=Zu U7;rw[A2] at uU;obtain⟨sO,fP,vs,bK,dK,hp⟩:=uU;obtain⟨hlen,⟨hn,a,hv⟩ | ⟨β',cap,j5,hv,h0,hB,hh,sN,zu,hcs,gC⟩⟩:=bK
     ·omega
     ·have N':β'=β:=by rw[hv] at hg;simp[bP] at hg;exact hg.2
      subst N';have tV:l1[j]? = Zz (l1.getD j .undef):=by simp[LY]
      have hold:(l1.getD j .undef).cells.length=z1:=fP _ (List.mem_of_getElem? tV);have L6:=ql.cells;have Oy:y.cells.toList.length=i.size:=by rw[L6.len,Om]
      have G2:y.cells.size=i.size:=by simpa using Oy
      have Va:=(hp β' hg).2 rfl;have AW:(j+1)*z1<=l1.length*z1:=Zm z1 LY;rw[Yy] at AW;have aaF:l1.length*z1<=cap*z1:=Zm z1 sN;have eB:=o7 (P:=P) (w:=w) hi hh (v:=y) (off:=j*z1+off) G2 (by rw[hcs];omega) L6.Ug;obtain⟨info,z,a1,a2,a3,a4,a5,a6,a7,a8,a9,_⟩:=bz (ft _ _ jc);have OA:(sU ei (l1.getD j .undef) off v'.cells).cells=place (l1.getD j .undef).cells off v'.cells:=by
       unfold sU;split
       ·rfl
       ·rename_i s7;have yv:=DN cZ s7;have Ra:z1=1:=by rw[<-hold,yv];rfl
        have AX:v'.cells.length=1:=by rw[yv] at re;simp at re;omega
        have ho0:off=0:=by rw[yv] at re;simp at re;omega
        obtain⟨c,CM⟩:=List.length_eq_one_iff.1 AX;rw[CM] at L6 ⊢;obtain⟨cv,_,_,Oc,_⟩:=L6.iK;rw[yv,ho0];simp[place,Oc.tB.2.2.1]
      refine⟨_,_,yP,?_⟩;obtain⟨gU,mL⟩:=kM.modify (k:=kk) (b := .dz e1 z1 (l1.set j (sU ei (l1.getD j .undef) off v'.cells)) Zv) (w':=w.setRow β' (j5.toList.take (j*z1+off)++y.cells.toList++j5.toList.drop (j*z1+off+y.cells.toList.length)).toArray) (p':=p1) (β₀:=β')
       (by rw[A2];trivial) trivial hg rfl rfl rfl (by simp) (fun β hU=>⟨setRow_other w β' β _ hU,rfl⟩) (fun fY=>by omega) (Zd _) (fun q hq=>by rw[Va] at hq;omega)
       (fun hm=>by
        refine⟨sO,fun q hq=> ?_,vs.take (j*z1+off)++y.cells.toList++vs.drop (j*z1+off+y.cells.toList.length),⟨?_,.inr ⟨β',cap,_,hv.trans (by simp),h0,hB,setRow_heap w β' j5 _ e1 _ hh,by simpa using sN,zu,?_,?_⟩⟩,?_,fun β n_=> ?_⟩
        ·rcases List.mem_or_eq_of_mem_set hq with hq | rfl
         ·exact fP q hq
         ·rw[OA,x3 _ _ _ (by rw[Om];omega),hold]
        ·simp;omega
        ·simp;omega
        ·simp only[List.length_set];rw[yn (by omega) (by simp;omega),gC]
        ·rw[AN tV fP OA (by rw[Om,<-hold];omega)];have:=qf dK (L6) (j*z1+off);exact this.imp fun _ _=>hm.vn
        ·rw[hg] at n_;cases n_;exact⟨by rw[Va];exact Nat.zero_le _,fun _=>Va⟩)
      exact⟨_,p1,g,by simpa [Instr.storeAt,Instr.sureAddr] using eB,gU,lK.trans mL⟩
    ·cases cZ
   ·cases hk
  ·rename_i e z l dC;split at hk
   ·rename_i ei jc;obtain⟨eg,bq⟩:=aM hk;simp only[Zp] at eg;obtain⟨hj0,hz⟩:=eg;have OC:=Zx hz;subst OC;obtain⟨v',cH,f1,p1,cZ,kM,lK,ql⟩:=Ao h hy bq;have uU:=kM.ns kk;split at cZ
    ·rename_i e1 z1 l1 A2;have nI:=jE cZ;obtain⟨eg,yP⟩:=cM nI;simp only[Zp,Qb1] at eg;obtain⟨⟨⟨⟨Om,vU⟩,ko⟩,L9⟩,U7⟩:=eg;have T3:=Zx L9;subst T3;have re:=Zu vU;have zA:0<i.size:=Zu ko;have LY:j<l1.length:=Zu U7;rw[A2] at uU;obtain⟨β',cap,hv,hB,sO,fP,h0,sN,zu,Va,j5,vs,hh,hcs,hlen,gC,dK⟩:=uU
     ·have N':β'=β:=by rw[hv] at hg;simp[bP] at hg;exact hg.2
      subst N';have tV:l1[j]? = Zz (l1.getD j .undef):=by simp[LY]
      have hold:(l1.getD j .undef).cells.length=z1:=fP _ (List.mem_of_getElem? tV);have L6:=ql.cells;have Oy:y.cells.toList.length=i.size:=by rw[L6.len,Om]
      have G2:y.cells.size=i.size:=by simpa using Oy
      have AW:(j+1)*z1<=l1.length*z1:=Zm z1 LY;rw[Yy] at AW;have aaF:l1.length*z1<=cap*z1:=Zm z1 sN;have eB:=o7 (P:=P) (w:=w) hi hh (v:=y) (off:=j*z1+off) G2 (by rw[hcs];omega) L6.Ug;obtain⟨info,z,a1,a2,a3,a4,a5,a6,a7,a8,a9,_⟩:=bz (ft _ _ jc);have OA:(sU ei (l1.getD j .undef) off v'.cells).cells=place (l1.getD j .undef).cells off v'.cells:=by
       unfold sU;split
       ·rfl
       ·rename_i s7;have yv:=DN cZ s7;have Ra:z1=1:=by rw[<-hold,yv];rfl
        have AX:v'.cells.length=1:=by rw[yv] at re;simp at re;omega
        have ho0:off=0:=by rw[yv] at re;simp at re;omega
        obtain⟨c,CM⟩:=List.length_eq_one_iff.1 AX;rw[CM] at L6 ⊢;obtain⟨cv,_,_,Oc,_⟩:=L6.iK;rw[yv,ho0];simp[place,Oc.tB.2.2.1]
      refine⟨_,_,yP,?_⟩;obtain⟨gU,mL⟩:=kM.modify (k:=kk) (b := .iW e1 z1 (l1.set j (sU ei (l1.getD j .undef) off v'.cells))) (w':=w.setRow β' (j5.toList.take (j*z1+off)++y.cells.toList++j5.toList.drop (j*z1+off+y.cells.toList.length)).toArray) (p':=p1) (β₀:=β')
       (by rw[A2];trivial) trivial hg rfl rfl rfl (by simp) (fun β hU=>⟨setRow_other w β' β _ hU,rfl⟩) (fun fY=>⟨hB.resolve_right (by omega),rfl⟩) (Zd _) (fun q hq=>by rw[Va] at hq;omega)
       (fun hm=>by
        refine⟨β',cap,hv.trans (by simp),hB,sO,fun q hq=> ?_,h0,by simpa using sN,zu,Va,_,vs.take (j*z1+off)++y.cells.toList++vs.drop (j*z1+off+y.cells.toList.length),setRow_heap w β' j5 _ e1 _ hh,?_,?_,?_,?_⟩
        ·rcases List.mem_or_eq_of_mem_set hq with hq | rfl
         ·exact fP q hq
         ·rw[OA,x3 _ _ _ (by rw[Om];omega),hold]
        ·simp;omega
        ·simp;omega
        ·simp only[List.length_set];rw[yn (by omega) (by simp;omega),gC]
        ·rw[AN tV fP OA (by rw[Om,<-hold];omega)];have:=qf dK (L6) (j*z1+off);exact this.imp fun _ _=>hm.vn)
      exact⟨_,p1,g,by simpa [Instr.storeAt,Instr.sureAddr] using eB,gU,lK.trans mL⟩
    ·cases cZ
   ·cases hk
  ·cases hk
 ·cases hk
end
end Go.Abs
