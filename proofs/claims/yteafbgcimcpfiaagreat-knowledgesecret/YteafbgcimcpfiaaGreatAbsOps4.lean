/- The abstract interpreter: values, stores, operations, code. Plain definitions; nothing is claimed here. -/
import GoSem.Step
import Derived.Below
import Derived.Deep.AppendSrc
import Derived.Deep.LoopGhost
import Derived.Laws.IdiomStrings
import Derived.Lib.Strings
set_option linter.all false
open Option renaming some→Zz
open Nat renaming beq→Zy,eq_of_beq_eq_true→Zx,le_of_ble_eq_true→Zu,blt→Zk,le_refl→Zd,lt_of_lt_of_le→Zf,mul_le_mul_right→Zm,ble→Zh,add_mul→Yy
open Decidable renaming decide→Zw
open Bool renaming false→Zv,and_eq_true→Zp,true→Zn
open List renaming getElem?_eq_some_iff→Zq,getElem?_take→Zj,flatMap_cons→Zg,getElem?_eq_getElem→Zb,eq_nil_of_length_eq_zero→Yz,getElem?_drop→Yx
abbrev Qa0:=@if_neg
abbrev Qa1:=@if_pos
abbrev Qa2:=@decide_eq_true_eq
abbrev Qa3:=@of_decide_eq_true
abbrev Qa4:=@decide_eq_true
abbrev Qa5:=@cond_true
abbrev Qa6:=@cond_false
abbrev Qa7:=@and_true
abbrev Qa8:=@true_and
abbrev Qa9:=@eq_of_beq
abbrev Qb0:=@beq_iff_eq
abbrev Qb1:=@Eq.trans
abbrev Qb2:=@decide_true
abbrev Qb3:=@congrArg
namespace Kerb
def u5(n m:Int):Int:=if m<n then m else n
def imax(n m:Int):Int:=if m>n then m else n
end Kerb
namespace Go.Abs
inductive AV where
 | undef
 | int (k:IntKind) (n:Int)
 | u8 (b:UInt8)
 | bool (b:Bool)
 | str (s:List UInt8)
 | bs (l:List UInt8)
 | sl (sz:Nat) (els:List AV)
 | cY
 | row (k:Nat)
 | ptr (k off:Nat)
 | ju (k i sz off:Nat)
 | jz (cs:List AV)
 | mc
 | agg (cs:List AV)
 | aS (vs:List AV)
 | bK (l:List UInt8)
 | aF (els:List AV)
 | bC (k:Nat) (gT:List Nat)
 | qd (k off:Nat)
 | pre (k n:Nat)
 | Fu (k m:Nat)
 | fn (f:Nat)
 | BV (f:Nat) (fs cs:List (Nat×Nat))
 | EK
 | mp (k:Nat)
 | wT
 | bE (k e sz:Nat)
inductive bw where
 | free
 | dead
 | cells (cs:List AV)
 | iz (l:List UInt8) (gU:Bool)
 | eo (e:Nat) (l:List UInt8) (gU:Bool)
 | c7 (e sz:Nat) (els:List AV) (gU:Bool)
 | nh (str:Bool) (kd:IntKind) (els:List AV)
 | hZ (e sz:Nat) (els:List AV)
inductive CT where
 | int (k:IntKind) | u8 | bool | str | fT | sl (sz:Nat) | ptr | other
inductive TK where
 | int (k:IntKind) | u8 | bool | str
 | slice (e:Nat) (byte:Bool)
 | cM (n e:Nat) (byte:Bool)
 | struct (fs:List (Nat×Nat))
 | ptr (e:Nat)
 | map (k e:Nat)
 | other
structure TI where
 size:Nat
 bytes:Nat
 kind:TK
 zero:List AV
 gy:List CT
 VK:List CT
inductive KC where
 | kZ (c:CT)
 | own (key e z:Nat) (byte:Bool)
 | qS (key:Nat) (str:Bool) (kd:IntKind)
inductive iP where
 | val (slot ty:Nat)
 | eo (slot e:Nat) (gU:Bool)
 | c7 (slot e sz:Nat) (gU:Bool)
 | ptr (slot k off:Nat)
 | cells (k:Nat) (gy:List CT)
 | iz (k:Nat) (gU:Bool)
 | bC (slot k:Nat) (gT:List Nat)
 | jR (k:Nat) (rz:List KC)
 | rowAt (k:Nat) (h:Bool) (e sz:Nat)
 | gD (slot k e sz:Nat)
abbrev aD:=List (List AV)
abbrev Na:=Nat->List AV->List (Nat×List AV)->Option (AV×aD)
structure Fr where
 aP:Nat->AV
 st:Nat->bw
structure FP where
 rd:List Nat
 wr:List Nat
def FP.none:FP:=⟨[],[]⟩
abbrev kH(α:Type):=AV->(Nat->bw)->FP->Option α
def merge(wr:List Nat)(s1 s2:Nat->bw):Nat->bw:=fun x=>if x∈wr then s1 x else s2 x
abbrev ud(A:Type):=(β:Type)->(Nat->bw)->(A->(Nat->bw)->FP->Option β)->Option β
structure Loc {A:Type} (T:ud A) (st:Nat->bw) (a:A) (st':Nat->bw) (fp:FP):Prop where
 mi:∀ x,x ∉ fp.wr->st' x=st x
 run:∀ bT,(∀ x∈fp.rd,bT x=st x)->∀ β k2,T β bT k2=k2 a (merge fp.wr st' bT) fp
structure ar {A:Type} (T:ud A):Prop where
 go:∀ {α:Type} {st:Nat->bw} {k:A->(Nat->bw)->FP->Option α} {r:α},T α st k=Zz r->∃ a st' fp,k a st' fp=Zz r/\Loc T st a st' fp
structure Fx where
 run:(α:Type)->Nat->List AV->(Nat->bw)->kH α->Option α
 loc:∀ kb args,ar (fun β s k=>run β kb args s k)
structure Env where
 ty:Nat->Option TI
 ij:Nat->List iP
 own:Nat->Bool
 call:Na
 pS:Nat->Option (List AV)
 hand:List Nat
 kb:Nat
 inl:Nat->Option Fx
section
variable {α:Type}
def AV.ax(kd:IntKind)(v:AV)(f:Int->Option α):Option α:=match v with | .int k n=>bif k==kd then f n else none | _=>none
def AV.oB(v:AV)(f:UInt8->Option α):Option α:=match v with | .u8 b=>f b | _=>none
def AV.cW(v:AV)(f:Bool->Option α):Option α:=match v with | .bool b=>f b | _=>none
def AV.nN(v:AV)(f:Bool->Option α)(s:Option α):Option α:=match v with | .bool b=>f b | .aS []=>s | _=>none
def AV.KS(v:AV)(f:Nat->List (Nat×Nat)->List (Nat×Nat)->Option α):Option α:=match v with | .fn n=>f n [] [] | .BV n a b=>f n a b | _=>none
def Pg:List AV->Option (List (Nat×Nat))
 | []=>Zz []
 | .ptr k o::r=>(Pg r).map ((k,o) :: ·)
 | _=>none
def kP(l:List (Nat×Nat)):List AV:=l.map fun x => .ptr x.1 x.2
def AV.gN(v:AV)(f:List UInt8->Option α):Option α:=match v with | .str s=>f s | _=>none
def AV.eX(v:AV)(f:List UInt8->Option α):Option α:=match v with | .bs l=>f l | _=>none
def AV.ik(sz:Nat)(v:AV)(f:List AV->Option α):Option α:=match v with | .sl z l=>bif Zy z sz then f l else none | _=>none
def AV.eL(v:AV)(f:List AV->Option α):Option α:=match v with | .agg l=>f l | _=>none
def AV.f_(v:AV)(f:List AV->Option α):Option α:=match v with | .aS l=>f l | _=>none
def AV.eO(v:AV)(f:List UInt8->Option α):Option α:=match v with | .bK l=>f l | _=>none
def AV.aT(v:AV)(f:List AV->Option α):Option α:=match v with | .aF l=>f l | _=>none
def ay(l:List AV)(f:AV->List AV->Option α):Option α:=match l with | x::r=>f x r | []=>none
def aw(l:List AV)(f:Option α):Option α:=match l with | []=>f | _::_=>none
def az(b:Bool)(f:Option α):Option α:=cond b f none
def aE(b:Bool)(f g:Option α):Option α:=cond b f g
def aO(l:List (List AV))(f:Option α):Option α:=match l with | []=>f | _::_=>none
def aM(l:List (List AV))(f:List AV->List (List AV)->Option α):Option α:=match l with | x::r=>f x r | []=>none
end
def dV:List CT->List AV->Bool
 | [],[]=>Zn
 | .int k::cs,.int k' _::vs=>k==k'&&dV cs vs
 | .u8::cs,.u8 _::vs=>dV cs vs
 | .bool::cs,.bool _::vs=>dV cs vs
 | .str::cs,.str _::vs=>dV cs vs
 | _,_=>Zv
def AV.cells:AV->List AV
 | .agg cs=>cs
 | v=>[v]
def AV.dz:AV->Bool
 | .int .. | .u8 _ | .bool _ | .str _ | .bs _ | .sl .. | .cY | .row _ | .ptr .. | .ju .. | .jz _ | .mc | .bC .. | .qd .. | .pre .. | .Fu .. | .fn _ | .BV .. | .EK | .mp _ | .wT | .bE .. => Zn
 | _=>Zv
def ni(k:IntKind)(n:Int):AV:=match k with | .u8 => .u8 (UInt8.ofNat n.toNat) | k => .int k n
def EO:Value->Option AV
 | .bool b=>Zz (.bool b)
 | .int k n=>match k with
  | .u8=>bif Zw (0<=n)&&Zw (n<256) then Zz (.u8 (UInt8.ofNat n.toNat)) else none
  | k=>Zz (.int k n)
 | .string s=>Zz (.str s.data.toList)
 | .slice none 0 0=>Zz .cY
 | .pointer none=>Zz .mc
 | .map none=>Zz .EK
 | .nilFunc=>Zz .wT
 | _=>none
def nM:List Value->Option (List AV)
 | []=>Zz []
 | v::r=>match EO v,nM r with | some a,Zz l=>Zz (a::l) | _,_=>none
def O5(v:Value):Option AV :=
 match v with
 | .agg cs=>(nM cs.toList).map .agg
 | v=>EO v
def lO:AV->AV->Bool
 | .int a n,.int b m=>(a==b)&&(n==m)
 | .str a,.str b=>a==b
 | _,_=>Zv
def fJ:AV->AV
 | .aS (k::_)=>k
 | _ => .undef
def sq:AV->AV
 | .aS [_,v]=>v
 | _ => .undef
def _root_.Kerb.oe(x:AV):List AV->Option AV
 | []=>none
 | e::r=>bif lO (fJ e) x then Zz (sq e) else Kerb.oe x r
def _root_.Kerb.isM(x:AV)(l:List AV):Bool:=(Kerb.oe x l).isSome
def _root_.Kerb.getM(x:AV)(l:List AV)(d:AV):AV:=(Kerb.oe x l).getD d
def _root_.Kerb.nQ(x v:AV):List AV->List AV
 | []=>[.aS [x,v]]
 | e::r=>bif lO (fJ e) x then .aS [x,v]::r else e::Kerb.nQ x v r
def o9(str:Bool)(kd:IntKind)(v:AV):Bool:=match v with
 | .int k _ => !str&&k==kd
 | .str _=>str
 | _=>Zv
def wJ(i:TI):Option (Bool×IntKind):=match i.kind with
 | .int k=>Zz (Zv,k)
 | .str=>Zz (Zn,.i64)
 | _=>none
section ops
variable {α:Type} (E:Env)
def fL(c:CT)(v:AV)(k:AV->Option α):Option α :=
 match c with
 | .int kd=>v.ax kd fun n=>k (.int kd n)
 | .u8=>v.oB fun b=>k (.u8 b)
 | .bool=>v.cW fun b=>k (.bool b)
 | .str=>v.gN fun b=>k (.str b)
 | .fT=>v.eX fun b=>k (.bs b)
 | .sl z=>v.ik z fun b=>k (.sl z b)
 | _=>none
def mA:List CT->List AV->(List AV->Option α)->Option α
 | [],l,k=>aw l (k [])
 | c::cs,l,k=>ay l fun x r=>fL c x fun x'=>mA cs r fun r'=>k (x'::r')
def cS:TK->Bool
 | .struct _ | .cM .. => Zn
 | _=>Zv
def zeroV(i:TI):AV:=match cS i.kind with
 | true => .agg i.zero
 | false=>i.zero.headD .undef
def norm(i:TI)(v:AV)(k:AV->Option α):Option α :=
 match cS i.kind with
 | true=>v.eL fun cs=>mA i.gy cs fun iN=>k (.agg iN)
 | false=>match i.gy with
  | [c]=>fL c v k
  | _=>none
def cu{β:Type}(f:Nat->β)(k:Nat)(b:β):Nat->β:=fun x=>bif Zy x k then b else f x
def A7(c:CT)(v:AV)(st:Nat->bw)(k:AV->(Nat->bw)->FP->Option α):Option α :=
 match c,v with
 | .fT,.cY=>k (.bs []) st .none
 | .sl z,.cY=>k (.sl z []) st .none
 | _,.row r=>match st r with
  | .eo e l _=>k (.bs l) (cu st r (.eo e l Zn)) ⟨[r],[r]⟩
  | .c7 e z l _=>k (.sl z l) (cu st r (.c7 e z l Zn)) ⟨[r],[r]⟩
  | _=>none
 | _,.int kd n=>k (.int kd n) st .none
 | _,.u8 b=>k (.u8 b) st .none
 | _,.bool b=>k (.bool b) st .none
 | _,.str s=>k (.str s) st .none
 | _,.bs l=>k (.bs l) st .none
 | _,.sl z l=>k (.sl z l) st .none
 | _,.mc=>k .mc st .none
 | _,.jz cs=>k (.jz cs) st .none
 | _,_=>none
def FP.add(a b:FP):FP:=⟨a.rd++b.rd,a.wr++b.wr⟩
def mn:List CT->List AV->(Nat->bw)->(List AV->(Nat->bw)->FP->Option α)->Option α
 | [],[],st,k=>k [] st .none
 | c::cs,v::vs,st,k=>A7 c v st fun a cc f1=>mn cs vs cc fun l bT f2=>k (a::l) bT (f1.add f2)
 | _,_,_,_=>none
def out(i:TI)(v:AV)(st:Nat->bw)(k:AV->(Nat->bw)->FP->Option α):Option α :=
 match cS i.kind,v with
 | true,.agg cs=>mn i.gy cs st fun l st' f=>k (.agg l) st' f
 | false,v=>match i.gy with
  | [c]=>A7 c v st k
  | _=>none
 | _,_=>none
def Mq(i:TI)(v:AV)(st:Nat->bw)(k:AV->(Nat->bw)->FP->Option α):Option α :=
 match v with
 | .cY=>k .cY st .none
 | v=>out i v st k
def gV(x y:AV)(k:IntKind->Int->Int->Option α):Option α :=
 match x,y with
 | .int a n,.int b m=>bif a==b then k a n m else none
 | .u8 n,.u8 m=>k .u8 n.toNat m.toNat
 | _,_=>none
def ly:AV->AV->Option Bool
 | .int a n,.int b m=>bif a==b then Zz (n==m) else none
 | .u8 n,.u8 m=>Zz (n==m)
 | .bool a,.bool b=>Zz (a==b)
 | .str a,.str b=>Zz (a==b)
 | _,_=>none
def Np(a b:Option Bool):Option Bool:=match a with
 | some x=>match b with
  | some y=>Zz (x&&y)
  | none=>none
 | none=>none
def dr:List AV->List AV->Option Bool
 | [],[]=>Zz Zn
 | [x],[y]=>ly x y
 | x::xs,y::ys=>Np (ly x y) (dr xs ys)
 | _,_=>none
def qj:AV->Option Int
 | .int _ n=>Zz n
 | .u8 b=>Zz b.toNat
 | _=>none
def mh(op:BinOp)(x y:AV):Option AV :=
 match op with
 | .shl=>match x,qj y with
  | .int k n,Zz m=>az (Zw (0<=m)) (Zz (.int k (k.wrap (n*2 ^ (min m.toNat k.bits)))))
  | .u8 n,Zz m=>az (Zw (0<=m)) (Zz (ni .u8 (IntKind.u8.wrap ((n.toNat:Int)*2 ^ (min m.toNat 8)))))
  | _,_=>none
 | .shr=>match x,qj y with
  | .int k n,Zz m=>az (Zw (0<=m)) (Zz (.int k (n.fdiv (2 ^ (min m.toNat k.bits)))))
  | .u8 n,Zz m=>az (Zw (0<=m)) (Zz (ni .u8 ((n.toNat:Int).fdiv (2 ^ (min m.toNat 8)))))
  | _,_=>none
 | .add=>match x,y with
  | .str a,.str b=>az (Zw (a.length+b.length<=4611686018427387904)) (Zz (.str (a++b)))
  | x,y=>gV x y fun k n m=>Zz (ni k (k.wrap (n+m)))
 | .sub=>gV x y fun k n m=>Zz (ni k (k.wrap (n-m)))
 | .mul=>gV x y fun k n m=>Zz (ni k (k.wrap (n*m)))
 | .quo=>gV x y fun k n m=>az (!(m==0)) (Zz (ni k (k.wrap (n.tdiv m))))
 | .rem=>gV x y fun k n m=>az (!(m==0)) (Zz (ni k (n.tmod m)))
 | .and=>gV x y fun k n m=>Zz (ni k (k.wrap (BitVec.ofInt k.bits n &&& BitVec.ofInt k.bits m).toNat))
 | .or=>gV x y fun k n m=>Zz (ni k (k.wrap (BitVec.ofInt k.bits n ||| BitVec.ofInt k.bits m).toNat))
 | .xor=>gV x y fun k n m=>Zz (ni k (k.wrap (BitVec.ofInt k.bits n ^^^ BitVec.ofInt k.bits m).toNat))
 | .lss=>match x,y with
  | .str a,.str b=>Zz (.bool (Op.bytesLess a b))
  | x,y=>gV x y fun _ n m=>Zz (.bool (Zw (n<m)))
 | .leq=>match x,y with
  | .str a,.str b=>Zz (.bool (Op.bytesLess a b||a==b))
  | x,y=>gV x y fun _ n m=>Zz (.bool (Zw (n<=m)))
 | .gtr=>match x,y with
  | .str a,.str b=>Zz (.bool (!(Op.bytesLess a b||a==b)))
  | x,y=>gV x y fun _ n m=>Zz (.bool (Zw (n>m)))
 | .geq=>match x,y with
  | .str a,.str b=>Zz (.bool !(Op.bytesLess a b))
  | x,y=>gV x y fun _ n m=>Zz (.bool (Zw (n>=m)))
 | .eql=>match x,y with
  | .agg a,.agg b=>(dr a b).map .bool
  | x,y=>(ly x y).map .bool
 | .neq=>match x,y with
  | .agg a,.agg b=>(dr a b).map fun c => .bool !c
  | x,y=>(ly x y).map fun c => .bool !c
 | _=>none
def z4(op:BinOp)(x y:AV):Option (Bool×AV) :=
 match op with
 | .shl=>match x,qj y with
  | .int k n,Zz m=>Zz (Zw (0<=m),.int k (k.wrap (n*2 ^ (min m.toNat k.bits))))
  | .u8 n,Zz m=>Zz (Zw (0<=m),ni .u8 (IntKind.u8.wrap ((n.toNat:Int)*2 ^ (min m.toNat 8))))
  | _,_=>none
 | .shr=>match x,qj y with
  | .int k n,Zz m=>Zz (Zw (0<=m),.int k (n.fdiv (2 ^ (min m.toNat k.bits))))
  | .u8 n,Zz m=>Zz (Zw (0<=m),ni .u8 ((n.toNat:Int).fdiv (2 ^ (min m.toNat 8))))
  | _,_=>none
 | .add=>match x,y with
  | .str a,.str b=>Zz (Zw (a.length+b.length<=4611686018427387904),.str (a++b))
  | x,y=>(mh .add x y).map fun v=>(Zn,v)
 | .quo=>gV x y fun k n m=>Zz (!(m==0),ni k (k.wrap (n.tdiv m)))
 | .rem=>gV x y fun k n m=>Zz (!(m==0),ni k (n.tmod m))
 | op=>(mh op x y).map fun v=>(Zn,v)
def mm2(mx:Bool)(x y:AV):Option AV :=
 match x,y with
 | .int a n,.int b m=>bif a==b then Zz (.int a (match mx with | true=>Kerb.imax n m | false=>Kerb.u5 n m)) else none
 | _,_=>none
def AY(mx:Bool):AV->List AV->Option AV
 | x,[]=>match x with
  | .int k n=>Zz (.int k n)
  | _=>none
 | x,y::r=>(mm2 mx x y).bind fun z=>AY mx z r
def OZ(mx:Bool):List AV->Option AV
 | []=>none
 | x::r=>AY mx x r
def TM(op:UnOp)(x:AV):Option AV :=
 match op,x with
 | .not,.bool b=>Zz (.bool !b)
 | .neg,.int k n=>Zz (.int k (k.wrap (0-n)))
 | _,_=>none
def bytesOf(st:Nat->bw)(v:AV)(k:List UInt8->FP->Option α):Option α :=
 match v with
 | .bs l=>k l .none
 | .cY=>k [] .none
 | .row r=>match st r with
  | .eo _ l _=>k l ⟨[r],[]⟩
  | _=>none
 | _=>none
def vZ(sz:Nat)(st:Nat->bw)(v:AV)(k:List AV->FP->Option α):Option α :=
 match v with
 | .sl z l=>bif Zy z sz then k l .none else none
 | .cY=>k [] .none
 | .row r=>match st r with
  | .c7 _ z l _=>bif Zy z sz then k l ⟨[r],[]⟩ else none
  | _=>none
 | _=>none
def lenOf(st:Nat->bw)(v:AV)(k:Nat->FP->Option α):Option α :=
 match v with
 | .bs l=>k l.length .none
 | .sl _ l=>k l.length .none
 | .cY=>k 0 .none
 | .bC _ gT=>k gT.length .none
 | .row r=>match st r with
  | .eo _ l _=>k l.length ⟨[r],[]⟩
  | .c7 _ _ l _=>k l.length ⟨[r],[]⟩
  | _=>none
 | .bE r _ _=>match st r with
  | .hZ _ _ l=>k l.length ⟨[r],[]⟩
  | _=>none
 | _=>none
def QS:List AV->Option (List UInt8)
 | []=>Zz []
 | .u8 b::r=>(QS r).map (b :: ·)
 | _=>none
def place(cs:List AV)(off:Nat)(news:List AV):List AV:=cs.take off++news++cs.drop (off+news.length)
def qV:List AV->Nat->List AV->List AV
 | [],_,_=>[]
 | c::cs,0,n=>match n with
  | []=>c::cs
  | x::r=>x::qV cs 0 r
 | c::cs,k+1,n=>c::qV cs k n
def fill(gT:Nat->Option (Nat×Nat)):List (Nat×AV)->List AV->Option (List AV)
 | [],cs=>Zz cs
 | (i,v)::r,cs=>match gT i with
  | some q=>bif v.cells.length==q.2&&Zh (q.1+q.2) cs.length&&v.cells.all AV.dz then fill gT r (qV cs q.1 v.cells) else none
  | none=>none
end ops
def cA(E:Env)(fr:Fr):Operand->Option AV
 | .tmp t=>Zz (fr.aP t)
 | .const v=>O5 v
 | .global g=>(E.pS g).map .jz
 | .func f=>Zz (.fn f)
def fH(E:Env)(fr:Fr):List Operand->Option (List AV)
 | []=>Zz []
 | x::r=>match cA E fr x,fH E fr r with | some a,Zz l=>Zz (a::l) | _,_=>none
def gH(E:Env)(fr:Fr):List (Nat×Operand)->Option (List (Nat×AV))
 | []=>Zz []
 | (i,x)::r=>match cA E fr x,gH E fr r with | some a,Zz l=>Zz ((i,a)::l) | _,_=>none
section step
variable {α:Type} (E:Env) (fr:Fr)
def gX(t:Nat)(b:bw)(v:AV)(k:kH α):Option α :=
 match fr.st t with
 | .free=>k v (cu fr.st t b) ⟨[t],[t]⟩
 | _=>none
def loadCells(i:TI)(cs:List AV)(k:AV->Option α):Option α :=
 bif Zh i.size cs.length then
  match cS i.kind with
  | true=>k (.agg (cs.take i.size))
  | false=>match cs with
   | c::_=>k c
   | []=>none
 else none
def jt(i:TI)(a:AV)(k:kH α):Option α :=
 match a with
 | .ptr b off=>match fr.st b with
  | .cells cs=>loadCells i (cs.drop off) fun v=>k v fr.st ⟨[b],[]⟩
  | _=>none
 | .jz cs=>loadCells i cs fun v=>k v fr.st .none
 | .qd b off=>match i.kind with
  | .ptr _=>az (Zy i.size 1) (k (.ptr b off) fr.st .none)
  | _=>none
 | .ju b j sz off=>match fr.st b with
  | .eo _ l _=>az (Zk j l.length&&Zy off 0&&Zy sz 1 && !cS i.kind) (k (.u8 (l.getD j 0)) fr.st ⟨[b],[]⟩)
  | .iz l _=>az (Zk j l.length&&Zy off 0&&Zy sz 1 && !cS i.kind) (k (.u8 (l.getD j 0)) fr.st ⟨[b],[]⟩)
  | .c7 e z l _=>match E.ty e with
   | some ei=>az (Zk j l.length&&Zy z sz) (norm ei (l.getD j .undef) fun v=>loadCells i (v.cells.drop off) fun v=>k v fr.st ⟨[b],[]⟩)
   | none=>none
  | .hZ e z l=>match E.ty e with
   | some ei=>az (Zk j l.length&&Zy z sz) (norm ei (l.getD j .undef) fun v=>loadCells i (v.cells.drop off) fun v=>k v fr.st ⟨[b],[]⟩)
   | none=>none
  | _=>none
 | _=>none
def rD(ei:TI)(old:AV)(off:Nat)(news:List AV):AV:=match cS ei.kind with
 | true => .agg (place old.cells off news)
 | false=>news.headD .undef
def mR(i:TI)(a v:AV)(k:kH α):Option α :=
 match a with
 | .ptr b off=>match fr.st b with
  | .cells cs=>bif v.cells.length==i.size&&Zh (off+i.size) cs.length&&v.cells.all AV.dz then k .undef (cu fr.st b (.cells (qV cs off v.cells))) ⟨[b],[b]⟩ else none
  | _=>none
 | .ju b j sz off=>match fr.st b with
  | .eo e l gU=>v.oB fun x=>az (Zk j l.length&&Zy off 0&&Zy sz 1&&Zy i.size 1 && !gU) (k .undef (cu fr.st b (.eo e (l.set j x) Zv)) ⟨[b],[b]⟩)
  | .iz l gU=>v.oB fun x=>az (Zk j l.length&&Zy off 0&&Zy sz 1&&Zy i.size 1 && !gU) (k .undef (cu fr.st b (.iz (l.set j x) Zv)) ⟨[b],[b]⟩)
  | .c7 e z l gU=>match E.ty e with
   | some ei=>az (Zk j l.length&&Zy z sz && !gU) (out i v fr.st fun v' cc f1=>match cc b with
    | .c7 e1 z1 l1 Zv=>norm ei (l1.getD j .undef) fun old =>
      az (v'.cells.length==i.size&&Zh (off+i.size) old.cells.length&&Zk 0 i.size&&Zy z1 z&&Zk j l1.length)
       (k .undef (cu cc b (.c7 e1 z1 (l1.set j (rD ei old off v'.cells)) Zv)) (f1.add ⟨[b],[b]⟩))
    | _=>none)
   | none=>none
  | .hZ e z l=>match E.ty e with
   | some ei=>az (Zk j l.length&&Zy z sz) (out i v fr.st fun v' cc f1=>match cc b with
    | .hZ e1 z1 l1=>norm ei (l1.getD j .undef) fun old =>
      az (v'.cells.length==i.size&&Zh (off+i.size) old.cells.length&&Zk 0 i.size&&Zy z1 z&&Zk j l1.length)
       (k .undef (cu cc b (.hZ e1 z1 (l1.set j (rD ei old off v'.cells)))) (f1.add ⟨[b],[b]⟩))
    | _=>none)
   | none=>none
  | _=>none
 | _=>none
def na(q:Nat)(v:AV)(k:kH α):Option α :=
 match v with
 | .ptr b off=>k (.ptr b (off+q)) fr.st .none
 | .jz cs=>k (.jz (cs.drop q)) fr.st .none
 | .ju b j sz off=>k (.ju b j sz (off+q)) fr.st .none
 | _=>none
def qF(i:TI)(f:Nat):Option (Nat×Nat):=match i.kind with | .struct fs=>fs[f]? | _=>none
def Ba:List Nat->Nat->(Nat->Option α)->Option α
 | [],_,_=>none
 | o::r,n,f=>aE (Zy n 0) (f o) (Ba r (n-1) f)
def idx(v:AV):Option Int:=match v with | .int _ n=>Zz n | .u8 b=>Zz b.toNat | _=>none
def eJ(i:TI)(x ix:AV)(k:kH α):Option α :=
 match i.kind,x,idx ix with
 | .slice e Zn,x,Zz n=>match x with
  | .bs l=>az (Zw (0<=n)&&Zw (n<l.length)) (k (.jz [.u8 (l.getD n.toNat 0)]) fr.st .none)
  | .row r=>match fr.st r with
   | .eo _ l _=>az (Zw (0<=n)&&Zw (n<l.length)) (k (.ju r n.toNat 1 0) fr.st ⟨[r],[]⟩)
   | _=>none
  | _=>none
 | .slice e Zv,x,Zz n=>match E.ty e with
  | some ei=>match x with
   | .sl z l=>az (Zw (0<=n)&&Zw (n<l.length)&&Zy z ei.size) (norm ei (l.getD n.toNat .undef) fun v=>k (.jz v.cells) fr.st .none)
   | .bC b gT=>az (Zw (0<=n)&&Zw (n<gT.length)&&Zy ei.size 1) (Ba gT n.toNat fun o=>k (.qd b o) fr.st .none)
   | .row r=>match fr.st r with
    | .c7 _ z l _=>az (Zw (0<=n)&&Zw (n<l.length)&&Zy z ei.size) (k (.ju r n.toNat z 0) fr.st ⟨[r],[]⟩)
    | _=>none
   | .bE r _ _=>match fr.st r with
    | .hZ _ z l=>az (Zw (0<=n)&&Zw (n<l.length)&&Zy z ei.size) (k (.ju r n.toNat z 0) fr.st ⟨[r],[]⟩)
    | _=>none
   | _=>none
  | none=>none
 | .cM len e Zn,.ptr b 0,Zz n=>match fr.st b with
  | .iz l _=>az (Zw (0<=n)&&Zw (n<l.length)&&Zy l.length len&&Zk 1 len) (k (.ju b n.toNat 1 0) fr.st ⟨[b],[]⟩)
  | _=>none
 | .cM len e Zv,.ptr b off,Zz n=>match E.ty e with
  | some ei=>az (Zw (0<=n)&&Zw (n<(len:Int))&&Zk 1 len) (k (.ptr b (off+n.toNat*ei.size)) fr.st .none)
  | none=>none
 | .cM len e Zv,.jz cs,Zz n=>match E.ty e with
  | some ei=>az (Zw (0<=n)&&Zw (n<(len:Int))&&Zk 1 len&&Zy ei.size 1&&Zh len cs.length) (norm ei (cs.getD n.toNat .undef) fun v=>k (.jz [v]) fr.st .none)
  | none=>none
 | _,_,_=>none
def vY(i:TI)(x ix:AV)(k:kH α):Option α :=
 match i.kind,x,idx ix with
 | .str,.str l,Zz n=>az (Zw (0<=n)&&Zw (n<l.length)) (k (.u8 (l.getD n.toNat 0)) fr.st .none)
 | _,_,_=>none
def rW(v:Option AV)(d:Nat):Option Int:=match v with | none=>Zz (d:Int) | some v=>idx v
def tI(i:TI)(x:AV)(lo hi mx:Option AV)(k:kH α):Option α :=
 match mx with
 | some _=>none
 | none=>match i.kind with
  | .str=>x.gN fun l=>match rW lo 0,rW hi l.length with
   | some a,Zz b=>az (Zw (0<=a)&&Zw (a<=b)&&Zw (b<=l.length)) (k (.str ((l.take b.toNat).drop a.toNat)) fr.st .none)
   | _,_=>none
  | .slice e Zn=>A7 .fT x fr.st fun v st fp=>v.eX fun l=>match rW lo 0,rW hi l.length with
   | some a,Zz b=>az (Zw (0<=a)&&Zw (a<=b)&&Zw (b<=l.length)) (k (.bs ((l.take b.toNat).drop a.toNat)) st fp)
   | _,_=>none
  | .slice e Zv=>match E.ty e with
   | some ei=>A7 (.sl ei.size) x fr.st fun v st fp=>v.ik ei.size fun l=>match rW lo 0,rW hi l.length with
    | some a,Zz b=>az (Zw (0<=a)&&Zw (a<=b)&&Zw (b<=l.length)) (k (.sl ei.size ((l.take b.toNat).drop a.toNat)) st fp)
    | _,_=>none
   | none=>none
  | .cM n e Zn=>match x with
   | .ptr b 0=>match fr.st b with
    | .iz l _=>match rW lo 0,rW hi l.length with
     | some a,Zz c=>az (Zw (0<=a)&&Zw (a<=c)&&Zw (c<=l.length)&&Zy l.length n) (k (.bs ((l.take c.toNat).drop a.toNat)) (cu fr.st b (.iz l Zn)) ⟨[b],[b]⟩)
     | _,_=>none
    | _=>none
   | _=>none
  | _=>none
def sk(i:TI)(x:AV)(lo:Option AV)(hi m:AV)(k:kH α):Option α :=
 match i.kind with
 | .slice e Zn=>A7 .fT x fr.st fun v st fp=>v.eX fun l=>match rW lo 0,idx hi,idx m with
  | some a,Zz b,Zz c=>az (Zw (0<=a)&&Zw (a<=b)&&Zw (b<=c)&&Zw (c<=l.length)) (k (.bs ((l.take b.toNat).drop a.toNat)) st fp)
  | _,_,_=>none
 | .slice e Zv=>match E.ty e,lo,idx hi,idx m with
  | some _,none,Zz b,Zz c=>az (b==0&&c==0) (match x with
   | .sl _ _=>k .cY fr.st .none
   | .cY=>k .cY fr.st .none
   | .row _=>k .cY fr.st .none
   | _=>none)
  | _,_,_,_=>none
 | _=>none
def sm(i:TI)(x:AV)(lo hi:Option AV)(k:kH α):Option α :=
 match i.kind,x with
 | .slice _ Zn,.row r=>match fr.st r with
  | .eo _ l p=>match lo,hi with
   | none,Zz h=>match idx h with
    | some b=>az (Zw (0<=b)&&Zw (b<=l.length)&&Zk 0 l.length && !p) (k (.pre r b.toNat) fr.st ⟨[r],[]⟩)
    | none=>none
   | some a,none=>match idx a with
    | some a=>az (Zw (0<=a)&&Zw (a<=l.length)&&Zk 0 l.length && !p) (k (.Fu r a.toNat) fr.st ⟨[r],[]⟩)
    | none=>none
   | _,_=>none
  | _=>none
 | _,_=>none
def pM(t:Nat)(ki:TI)(k:kH α):Option α :=
 match wJ ki with
 | some q=>gX fr t (.nh q.1 q.2 []) (.mp t) k
 | none=>none
def od(ki ei:TI)(m q:AV)(ok:Bool)(k:kH α):Option α :=
 match m with
 | .mp b=>match fr.st b with
  | .nh s kd els=>match wJ ki with
   | some z=>az ((z.1==s)&&(z.2==kd)&&o9 s kd q) (norm ei (Kerb.getM q els (zeroV ei)) fun v=>match ok with
    | true=>k (.aS [v,.bool (Kerb.isM q els)]) fr.st ⟨[b],[]⟩
    | false=>k v fr.st ⟨[b],[]⟩)
   | none=>none
  | _=>none
 | _=>none
def pN(ki ei:TI)(m q x:AV)(k:kH α):Option α :=
 match m with
 | .mp b=>match fr.st b with
  | .nh s kd els=>match wJ ki with
   | some z=>az ((z.1==s)&&(z.2==kd)&&o9 s kd q) (out ei x fr.st fun v cc f1=>match cc b with
    | .nh s1 UD D9=>az ((s1==s)&&(UD==kd)) (k .undef (cu cc b (.nh s kd (Kerb.nQ q v D9))) (f1.add ⟨[b],[b]⟩))
    | _=>none)
   | none=>none
  | _=>none
 | _=>none
def pL(s d:TI)(x:AV)(k:kH α):Option α :=
 match d.kind with
 | .int kd=>match idx x with
  | some n=>k (.int kd (kd.wrap n)) fr.st .none
  | none=>none
 | .u8=>match idx x with
  | some n=>k (ni .u8 (IntKind.u8.wrap n)) fr.st .none
  | none=>none
 | .str=>match s.kind with
  | .str=>x.gN fun l=>k (.str l) fr.st .none
  | .slice _ Zn=>bytesOf fr.st x fun l fp=>k (.str l) fr.st fp
  | _=>none
 | .slice _ Zn=>match s.kind with
  | .str=>x.gN fun l=>k (.bs l) fr.st .none
  | _=>none
 | _=>none
def room(n bytes:Nat):Bool:=Zh (n*bytes) 140737488355328&&Zh n 140737488355328
def DT(t e:Nat)(s:AV)(new:List UInt8)(fp:FP)(k:kH α):Option α :=
 match s with
 | .cY=>az (room new.length 1) (k (.row t) (cu fr.st t (.eo e new Zv)) ⟨t::fp.rd,[t]⟩)
 | .row r=>match fr.st r with
  | .eo e' l p=>az (Zy e e'&&room (l.length+new.length) 1) (k (.row t) (cu (cu fr.st r .dead) t (.eo e (l++new) p)) ⟨t::r::fp.rd,[t,r]⟩)
  | _=>none
 | _=>none
def II(t e:Nat)(ei:TI)(s:AV)(new:List AV)(fp:FP)(k:kH α):Option α :=
 match s with
 | .cY=>az (Zk 0 ei.size&&room new.length ei.bytes) (k (.row t) (cu fr.st t (.c7 e ei.size new Zv)) ⟨t::fp.rd,[t]⟩)
 | .row r=>match fr.st r with
  | .c7 e' z l p=>az (Zy e e'&&Zy z ei.size&&room (l.length+new.length) ei.bytes) (k (.row t) (cu (cu fr.st r .dead) t (.c7 e ei.size (l++new) p)) ⟨t::r::fp.rd,[t,r]⟩)
  | _=>none
 | _=>none
def Lc(t e:Nat)(s:AV)(r m:Nat)(k:kH α):Option α :=
 match s with
 | .pre r' n=>match fr.st r with
  | .eo e' l p=>az (Zk 0 l.length&&Zy r r'&&Zy e e' && !p&&room (n+(l.length-m)) 1) (k (.row t) (cu (cu fr.st r .dead) t (.eo e (l.take n++l.drop m) Zv)) ⟨[t,r],[t,r]⟩)
  | _=>none
 | _=>none
def js(t:Nat)(i:TI)(s x:AV)(k:kH α):Option α :=
 match fr.st t with
 | .free=>match i.kind with
  | .slice e Zn=>match x with
   | .str l=>DT fr t e s l .none k
   | .Fu r m=>Lc fr t e s r m k
   | x=>bytesOf fr.st x fun new fp=>DT fr t e s new fp k
  | .slice e Zv=>match E.ty e with
   | none=>none
   | some ei=>vZ ei.size fr.st x fun new fp=>II fr t e ei s new fp k
  | _=>none
 | _=>none
def nj(ei:TI):List (Nat×AV)->(Nat->bw)->(List (Nat×AV)->(Nat->bw)->FP->Option α)->Option α
 | [],st,k=>k [] st .none
 | (i,v)::r,st,k=>out ei v st fun a cc f1=>nj ei r cc fun l bT f2=>k ((i,a)::l) bT (f1.add f2)
def fY:Nat->List (Nat×AV)->Option (List AV)
 | _,[]=>Zz []
 | j,(i,v)::r=>bif Zy i j then(fY (j+1) r).map (v :: ·) else none
def Em:List (Nat×AV)->Option Nat
 | (_,.ptr k _)::_=>Zz k
 | _=>none
def yf(b:Nat):Nat->List (Nat×AV)->Option (List Nat)
 | _,[]=>Zz []
 | j,(i,.ptr k off)::r=>bif Zy i j&&Zy k b then(yf b (j+1) r).map (off :: ·) else none
 | _,_=>none
def z6(t:Nat)(i:TI)(l c:AV)(k:kH α):Option α :=
 match i.kind,idx l,idx c with
 | .slice e Zn,Zz n,Zz m=>az (Zw (0<=n)&&Zw (n<=m)&&Zw (m<=140737488355328)) (gX fr t (.eo e (List.replicate n.toNat 0) Zv) (.row t) k)
 | _,_,_=>none
def oc(d:Nat)(i:TI)(len:Nat)(parts:List (Nat×AV))(k:kH α):Option α :=
 match i.kind with
 | .slice e Zn=>match fY 0 parts with
  | some els=>match QS els with
   | some l=>bif Zy parts.length len&&Zh len 16777216&&Zk 0 len then gX fr d (.eo e l Zv) (.row d) k else none
   | none=>none
  | none=>none
 | .slice e Zv=>match E.ty e,fY 0 parts with
  | some ei,Zz _=>bif Zy parts.length len&&Zh (len*ei.size) 16777216&&Zk 0 ei.size&&Zk 0 len then nj ei parts fr.st fun ps st fp =>
    match fY 0 ps with
    | some els=>bif els.all (fun x=>Zy x.cells.length ei.size) then gX ⟨fr.aP,st⟩ d (.c7 e ei.size els Zv) (.row d) fun v bT f2=>k v bT (fp.add f2) else none
    | none=>none
   else none
  | _,_=>none
 | _=>none
def lB(i:TI)(len:Nat)(parts:List (Nat×AV))(k:kH α):Option α :=
  match i.kind with
  | .slice e byte=>match len with
    | 0=>match parts,E.ty e with
      | [],Zz _=>k .cY fr.st .none
      | _,_=>none
    | _+1=>match Em parts with
     | some b=>match byte,E.ty e,yf b 0 parts with
      | false,Zz ei,Zz gT=>bif Zy parts.length len&&Zy ei.size 1&&Zh len 16777216 then k (.bC b gT) fr.st .none else none
      | _,_,_=>none
     | none=>match E.ty e,fY 0 parts with
      | some ei,Zz _=>bif Zy parts.length len&&Zh (len*ei.size) 16777216&&Zk 0 ei.size then nj ei parts fr.st fun ps st fp =>
          match fY 0 ps with
          | some els=>match byte with
            | true=>match QS els with
              | some l=>k (.bs l) st fp
              | none=>none
            | false=>bif els.all (fun x=>Zy x.cells.length ei.size) then k (.sl ei.size els) st fp else none
          | none=>none
        else none
      | _,_=>none
  | _=>none
def V5(ty:Nat):Option TI:=match E.ty ty with
 | some i=>match i.kind with
  | .ptr e=>E.ty e
  | _=>Zz i
 | none=>none
def dY(f:Nat):Nat->List Nat->List AV->(Nat->bw)->(List AV->List (Nat×Nat×List AV)->(Nat->bw)->FP->Option α)->Option α
 | _,[],[],st,k=>k [] [] st .none
 | j,ty::jD,v::vs,st,k=>match v with
  | .ptr b off=>match st b with
   | .cells cs=>match V5 E ty with
    | some ei=>bif off==0&&ei.size==cs.length then mn ei.gy cs st fun iN cc f1 =>
      dY f (j+1) jD vs cc fun l bl bT f2=>bif bl.any (fun x=>x.2.1==b) then none else k (.ptr j 0::l) ((j,b,iN)::bl) bT (FP.add ⟨b::f1.rd,b::f1.wr⟩ f2)
     else none
    | none=>none
   | _=>none
  | .bE r e z=>dY f (j+1) jD vs st fun l bl bT f2=>match bT r with
   | .hZ e' z' els=>bif Zy e e'&&Zy z z' && !bl.any (fun x=>x.2.1==r) then k (.bE j e z::l) ((j,r,els)::bl) bT (FP.add ⟨[r],[r]⟩ f2) else none
   | _=>none
  | v=>match E.own (1000000+f*64+j) with
   | true=>match v with
    | .row r=>dY f (j+1) jD vs st fun l bl bT f2=>match bT r with
     | .c7 e z els Zv=>az (Zk 0 els.length) (bif !bl.any (fun x=>x.2.1==r) then k (.bE j e z::l) ((j,r,els)::bl) bT (FP.add ⟨[r],[r]⟩ f2) else none)
     | _=>none
    | _=>none
   | false=>match E.ty ty with
    | some i=>Mq i v st fun a cc f1=>dY f (j+1) jD vs cc fun l bl bT f2=>k (a::l) bl bT (f1.add f2)
    | none=>none
 | _,_,_,_,_=>none
def NV(ty:Nat->Option TI):Nat->Nat->List Nat
 | 0,t=>[t]
 | m+1,t=>match ty t with
  | some i=>match i.kind with
   | .struct fs=>fs.flatMap fun f=>NV ty m f.2
   | _=>[t]
  | none=>[t]
def Y6(ty:Nat->Option TI):List Nat->Nat->Option (Nat×Nat×TI)
 | [],_=>none
 | t::r,n=>match ty t with
  | some i=>match i.kind with
   | .slice e Zv=>match ty e with
    | some ei=>Zz (n,e,ei)
    | none=>none
   | _=>Y6 ty r (n+1)
  | none=>none
def PH(ty:Nat->Option TI)(fs:List (Nat×Nat)):Option (Nat×Nat×TI):=Y6 ty (fs.flatMap fun f=>NV ty 5 f.2) 0
def pd(t:Nat):Nat->List CT->List AV->(List AV->List AV->Option α)->Option α
 | 0,_::gy,v,k=>ay v fun x r=>x.aT fun l=>mA gy r fun r'=>k (.row t::r') l
 | j+1,c::gy,v,k=>ay v fun x r=>fL c x fun x'=>pd t j gy r fun r' l=>k (x'::r') l
 | _,[],_,_=>none
def GD(fs:List (Nat×Nat))(t:Nat)(i:TI)(v:AV)(st:Nat->bw)(k:AV->(Nat->bw)->FP->Option α):Option α :=
 match PH E.ty fs with
 | some (j,e,ei)=>match st t with
  | .free=>v.eL fun cs=>pd t j i.gy cs fun iN l=>k (.agg iN) (cu st t (.c7 e ei.size l Zv)) ⟨[t],[t]⟩
  | _=>none
 | none=>norm i v fun v'=>k v' st .none
def ry(own:Bool)(t:Nat)(i:TI)(v:AV)(st:Nat->bw)(k:AV->(Nat->bw)->FP->Option α):Option α :=
 match own,i.kind with
 | true,.slice e Zn=>match st t with
  | .free=>v.eO fun l=>k (.row t) (cu st t (.eo e l Zv)) ⟨[t],[t]⟩
  | _=>none
 | true,.slice e Zv=>match st t,E.ty e with
  | .free,Zz ei=>v.aT fun l=>k (.row t) (cu st t (.c7 e ei.size l Zv)) ⟨[t],[t]⟩
  | _,_=>none
 | true,.struct fs=>GD E fs t i v st k
 | _,_=>norm i v fun v'=>k v' st .none
def lK(own:Bool)(t:Nat):List Nat->List AV->(Nat->bw)->(List AV->(Nat->bw)->FP->Option α)->Option α
 | [],l,st,k=>aw l (k [] st .none)
 | ty::jD,l,st,k=>match E.ty ty with
  | some i=>ay l fun v r=>ry E own t i v st fun a cc f1=>lK Zv (t+4096) jD r cc fun l' bT f2=>k (a::l') bT (f1.add f2)
  | none=>none
def wW(o v:AV)(k:AV->Option α):Option α :=
 match o with
 | .int kd _=>v.ax kd fun n=>k (.int kd n)
 | .u8 _=>v.oB fun b=>k (.u8 b)
 | .bool _=>v.cW fun b=>k (.bool b)
 | .str _=>v.gN fun b=>k (.str b)
 | .bs _=>v.eX fun b=>k (.bs b)
 | .sl z _=>v.ik z fun b=>k (.sl z b)
 | _=>k v
def nW:List AV->List AV->(List AV->Option α)->Option α
 | [],l,k=>aw l (k [])
 | o::os,l,k=>ay l fun x r=>wW o x fun x'=>nW os r fun r'=>k (x'::r')
def Bd:bw->List AV->bw
 | .c7 e z _ p,cs => .c7 e z cs p
 | .hZ e z _,cs => .hZ e z cs
 | _,cs => .cells cs
def isRow:bw->Bool
 | .c7 .. => Zn
 | .hZ .. => Zn
 | _=>Zv
def lJ:List (Nat×Nat×List AV)->aD->(Nat->bw)->((Nat->bw)->Option α)->Option α
 | [],bs,st,k=>aO bs (k st)
 | (_,b,old)::r,bs,st,k=>aM bs fun cs Sw=>match isRow (st b) with
  | true=>lJ r Sw (cu st b (Bd (st b) cs)) k
  | false=>nW old cs fun iN=>lJ r Sw (cu st b (Bd (st b) iN)) k
end step
def sg{α:Type}(E:Env)(fr:Fr)(rts:Nat->Option (List Nat))(t:Nat)(f:Nat)(Tn:List Nat)(args:List AV)(k:kH α):Option α :=
 match rts f with
 | none=>none
 | some rt=>dY E f 0 Tn args fr.st fun as bl st fp =>
  (E.call f as (bl.map fun x=>(x.1,x.2.2))).bind fun r=>lJ bl r.2 st fun cc =>
   match rt with
   | [ty]=>match E.ty ty with
    | some i=>ry E (E.own f) t i r.1 cc fun v bT f2=>k v bT (fp.add f2)
    | none=>none
   | rt=>r.1.f_ fun vs=>lK E (E.own f) t rt vs cc fun l bT f2=>k (.aS l) bT (fp.add f2)
end Go.Abs
/- The abstract interpreter: operations dispatched, regions, code, calls. -/
namespace Go.Abs
def dW{σ ρ:Type}(step:σ->Option (σ ⊕ ρ)):Nat->σ->Option ρ
 | 0,_=>none
 | n+1,s=>match step s with
  | some (.inl s')=>dW step n s'
  | some (.inr r)=>Zz r
  | none=>none
open Classical in
noncomputable def bF{σ ρ:Type}(step:σ->Option (σ ⊕ ρ))(s:σ):Option ρ :=
 if h:∃ n r,dW step n s=Zz r then Zz (Classical.choose (Classical.choose_spec h)) else none
def Ev:bw->Bool
 | .free=>Zn
 | _=>Zv
def zW:AV->List Nat
 | .row k=>[k]
 | .ptr k _=>[k]
 | .ju k .. => [k]
 | .bC k _=>[k]
 | .qd k _=>[k]
 | .pre k _=>[k]
 | .Fu k _=>[k]
 | .BV _ fs cs=>fs.map (·.1)++cs.map (·.1)
 | .mp k=>[k]
 | .bE k .. => [k]
 | _=>[]
def Nv:AV->List Nat
 | .agg cs=>cs.flatMap zW
 | v=>zW v
def vT:bw->List Nat
 | .cells cs=>cs.flatMap zW
 | _=>[]
def reach(st:Nat->bw):Nat->List Nat->List Nat
 | 0,ks=>ks
 | m+1,ks=>ks++reach st m (ks.flatMap fun k=>vT (st k))
theorem vv{s s2:Nat->bw}:∀ {m:Nat} {ks:List Nat},(∀ x∈reach s m ks,s2 x=s x)->reach s2 m ks=reach s m ks
 | 0,ks,h=>rfl
 | m+1,ks,h=>by
  simp only[reach,List.mem_append] at h ⊢;have e:(ks.flatMap fun k=>vT (s2 k))=ks.flatMap fun k=>vT (s k):=by
   have:∀ l:List Nat,(∀ x∈l,s2 x=s x)->(l.flatMap fun k=>vT (s2 k))=l.flatMap fun k=>vT (s k):=by
    intro l;induction l with
    | nil=>intro _;rfl
    | cons y l ih =>
     intro hl;rw[Zg,Zg,hl y (by simp),ih fun x hx=>hl x (by simp[hx])]
   exact this ks fun x hx=>h x (.inl hx)
  rw[e,vv fun x hx=>h x (.inr hx)]
def fk(kb t:Nat):Nat:=match kb with
 | 0=>(t+1)*100000
 | m+1=>(m+1+t+1)*100000
def KT:Nat->List Nat->Nat
 | b,[]=>b
 | b,[d]=>b+d
 | b,p::r=>KT (fk b p) r
def p_(kb:Nat):List iP->List Nat
 | []=>[]
 | .bC t m ds::r=>(match m with
  | 0=>ds.map (fk kb t + ·)
  | 1=>[KT (fk kb t) ds]
  | _=>(kb+t)::ds.map (kb + ·))++p_ kb r
 | .ptr t u d::r=>(fk (fk kb t) u+d)::p_ kb r
 | .val d _::r=>d::p_ kb r
 | _::r=>p_ kb r
def iT(st:Nat->bw)(vs:List AV)(kb:Nat)(hs:List iP):List Nat:=reach st 3 (vs.flatMap Nv)++p_ kb hs
def KA(c:CT)(v:AV):Bool:=match c,v with
 | .bool,.bool _=>Zn
 | .int k,.int k' _=>k==k'
 | _,_=>Zv
def AF(c:CT)(v:AV)(fp:FP)(A:List Nat)(st:Nat->bw):Bool:=KA c v&&fp.rd.all (fun x=>A.contains x)&&fp.wr.all fun x=>A.contains x&&Ev (st x)
def CX{α:Type}(run:Fx)(c:CT)(hs:List iP)(kb:Nat)(vs:List AV)(st:Nat->bw)(k:kH α):Option α :=
 (run.run (List AV) kb vs st fun v _ fp=>az (AF c v fp (iT st vs kb hs) st) (Zz [v])).bind fun l =>
  ay l fun v r=>aw r (fL c v fun v'=>k v' st ⟨iT st vs kb hs,[]⟩)
def zU{α:Type}(h:List iP)(run:Fx)(kb:Nat)(vs:List AV)(st:Nat->bw)(k:kH α):Option α :=
 match h with
 | .cells _ [c]::hs=>CX run c hs kb vs st k
 | _=>run.run α kb vs st k
section
variable {α:Type} (E:Env) (rts:Nat->Option (List Nat))
def F5(fr:Fr)(i:TI)(v:AV)(k:kH α):Option α :=
 match i.kind with
 | .str=>v.gN fun l=>k (.int .i64 l.length) fr.st .none
 | .slice _ _=>lenOf fr.st v fun n fp=>k (.int .i64 n) fr.st fp
 | _=>none
def D5(i:TI)(op:BinOp)(a b:AV):Option AV :=
 match a with
 | .agg cs=>match i.VK with
  | []=>none
  | c::r=>bif dV (c::r) cs&&cS i.kind then mh op a b else none
 | .bool _=>match i.kind with
  | .bool=>mh op a b
  | _=>none
 | .undef=>none
 | .aS _=>none
 | a=>mh op a b
def D6(i:TI)(op:BinOp)(a b:AV):Option (Bool×AV) :=
 match a with
 | .agg cs=>match i.VK with
  | []=>none
  | c::r=>bif dV (c::r) cs&&cS i.kind then z4 op a b else none
 | .bool _=>match i.kind with
  | .bool=>z4 op a b
  | _=>none
 | .undef=>none
 | .aS _=>none
 | a=>z4 op a b
def vX(i:TI)(fr:Fr)(parts:List (Nat×AV))(k:kH α):Option α :=
 match i.kind with
 | .struct fs=>match fill (fun j=>(fs[j]?).bind fun f=>(E.ty f.2).map fun fi=>(f.1,fi.size)) parts i.zero with
  | some cs=>k (.agg cs) fr.st .none
  | none=>none
 | _=>none
def BU(d:Option Nat):Bool :=
 match d with
 | some t=>match E.ij (1000000+t) with
  | []=>Zv
  | _::_=>Zn
 | none=>Zv
def DZ(f:Nat):List Nat:=(E.ij (7000000+f)).filterMap fun | .val _ ty=>Zz ty | _=>none
def sj(fr:Fr)(o:Oper)(k:kH α):Option α :=
 match o.op with
 | .move x=>(cA E fr x).bind fun v=>k v fr.st .none
 | .assign x=>(cA E fr x).bind fun v=>k v fr.st .none
 | .pick c a b=>(cA E fr c).bind fun v=>v.cW fun t=>aE t ((cA E fr a).bind fun v=>k v fr.st .none) ((cA E fr b).bind fun v=>k v fr.st .none)
 | .alloc e=>(E.ty e).bind fun i=>match o.dst with
  | some t=>match i.kind with
   | .cM _ _ Zn=>(QS i.zero).bind fun l=>gX fr (E.kb+t) (.iz l Zv) (.ptr (E.kb+t) 0) k
   | _=>gX fr (E.kb+t) (.cells i.zero) (.ptr (E.kb+t) 0) k
  | none=>none
 | .box e x=>(E.ty e).bind fun i=>(cA E fr x).bind fun v=>match o.dst with
  | some t=>bif v.cells.length==i.size&&v.cells.all AV.dz then gX fr (E.kb+t) (.cells v.cells) (.ptr (E.kb+t) 0) k else none
  | none=>none
 | .build t parts=>(E.ty t).bind fun i=>(gH E fr parts.toList).bind fun ps=>vX E i fr ps k
 | .buildSlice t len parts=>(E.ty t).bind fun i=>(gH E fr parts.toList).bind fun ps=>match BU E o.dst,o.dst with
  | true,Zz d=>oc E fr (E.kb+d) i len ps k
  | _,_=>lB E fr i len ps k
 | .makeSlice t l c=>(E.ty t).bind fun i=>(cA E fr l).bind fun n=>(cA E fr c).bind fun m=>match o.dst with
  | some d=>z6 fr (E.kb+d) i n m k
  | none=>none
 | .load t a=>(E.ty t).bind fun i=>(cA E fr a).bind fun v=>jt E fr i v k
 | .store t a x=>(E.ty t).bind fun i=>(cA E fr a).bind fun p=>(cA E fr x).bind fun v=>mR E fr i p v k
 | .nilCheck x=>(cA E fr x).bind fun v=>match v with
  | .ptr a b=>k (.ptr a b) fr.st .none
  | .jz l=>k (.jz l) fr.st .none
  | .ju a b c d=>k (.ju a b c d) fr.st .none
  | _=>none
 | .binOp op t x y _=>(E.ty t).bind fun i=>(cA E fr x).bind fun a=>(cA E fr y).bind fun b=>(D6 i op a b).bind fun x=>az x.1 (k x.2 fr.st .none)
 | .unOp op _ x=>(cA E fr x).bind fun a=>(TM op a).bind fun v=>k v fr.st .none
 | .convert s d x=>(E.ty s).bind fun si=>(E.ty d).bind fun di=>(cA E fr x).bind fun v=>pL fr si di v k
 | .slice t x lo hi mx=>(E.ty t).bind fun i=>(cA E fr x).bind fun v =>
   match lo.map (cA E fr),hi.map (cA E fr),mx.map (cA E fr) with
   | some none,_,_=>none
   | _,Zz none,_=>none
   | _,_,Zz none=>none
   | a,Zz (Zz b),Zz (Zz m)=>sk E fr i v (a.bind id) b m k
   | _,none,Zz (Zz _)=>none
   | a,b,none=>match BU E o.dst with
    | true=>sm fr i v (a.bind id) (b.bind id) k
    | false=>tI E fr i v (a.bind id) (b.bind id) none k
 | .fieldAddr t x f=>(E.ty t).bind fun i=>(qF i f).bind fun p=>(cA E fr x).bind fun v=>na fr p.1 v k
 | .field t x f=>(E.ty t).bind fun i=>(qF i f).bind fun p=>(E.ty p.2).bind fun fi=>(cA E fr x).bind fun v=>v.eL fun cs=>loadCells fi (cs.drop p.1) fun v=>k v fr.st .none
 | .indexAddr t x ix=>(E.ty t).bind fun i=>(cA E fr x).bind fun v=>(cA E fr ix).bind fun n=>eJ E fr i v n k
 | .index t x ix=>(E.ty t).bind fun i=>(cA E fr x).bind fun v=>(cA E fr ix).bind fun n=>vY fr i v n k
 | .makeFunc fn fs cs=>match fn with
  | .func f=>(fH E fr fs.toList).bind fun a=>(fH E fr cs.toList).bind fun b=>(Pg a).bind fun pa=>(Pg b).bind fun pb=>k (.BV f pa pb) fr.st .none
  | _=>none
 | .makeMap t r=>match r,o.dst with
  | none,Zz d=>(E.ty t).bind fun i=>match i.kind with
   | .map kt _=>(E.ty kt).bind fun ki=>pM fr (E.kb+d) ki k
   | _=>none
  | _,_=>none
 | .lookup t x q ok=>(E.ty t).bind fun i=>match i.kind with
  | .map kt et=>(E.ty kt).bind fun ki=>(E.ty et).bind fun ei=>(cA E fr x).bind fun m=>(cA E fr q).bind fun v=>od fr ki ei m v ok k
  | _=>none
 | .mapUpdate t x q y=>(E.ty t).bind fun i=>match i.kind with
  | .map kt et=>(E.ty kt).bind fun ki=>(E.ty et).bind fun ei=>(cA E fr x).bind fun m=>(cA E fr q).bind fun v=>(cA E fr y).bind fun z=>pN fr ki ei m v z k
  | _=>none
 | .extract x j=>(cA E fr x).bind fun v=>v.f_ fun vs=>match vs[j]? with
  | some v=>k v fr.st .none
  | none=>none
 | .call c=>match c.callee with
  | .builtin .len=>(fH E fr c.args.toList).bind fun vs=>match vs,c.argTypes.toList with
   | [v],[ty]=>(E.ty ty).bind fun i=>F5 fr i v k
   | _,_=>none
  | .builtin .append=>(fH E fr c.args.toList).bind fun vs=>match vs,c.argTypes.toList,o.dst with
   | [s,x],[ty,tx],Zz t=>(E.ty ty).bind fun i=>(E.ty tx).bind fun xi=>match xi.kind with
    | .slice _ _=>js E fr (E.kb+t) i s x k
    | .str=>js E fr (E.kb+t) i s x k
    | _=>none
   | _,_,_=>none
  | .builtin .min=>(fH E fr c.args.toList).bind fun vs=>(OZ Zv vs).bind fun v=>k v fr.st .none
  | .builtin .max=>(fH E fr c.args.toList).bind fun vs=>(OZ Zn vs).bind fun v=>k v fr.st .none
  | .value (.func f)=>(fH E fr c.args.toList).bind fun vs=>match o.dst with
   | some t=>match E.inl f with
    | some run=>zU (E.ij (8000000+f)) run (fk E.kb t) vs fr.st k
    | none=>sg E fr rts (E.kb+t) f c.argTypes.toList vs k
   | none=>none
  | .value (.tmp s)=>(cA E fr (.tmp s)).bind fun v=>v.KS fun f fs cs=>(fH E fr c.args.toList).bind fun vs=>match o.dst with
   | some t=>match E.inl f with
    | some run=>zU (E.ij (8000000+f)) run (fk E.kb t) (kP fs++vs++kP cs) fr.st k
    | none=>sg E fr rts (E.kb+t) f ((DZ E f).take fs.length++c.argTypes.toList++(DZ E f).drop fs.length) (kP fs++vs++kP cs) k
   | none=>none
  | _=>none
 | _=>none
def dm(fr:Fr)(n:Nat)(d:Option Nat)(v:AV)(st:Nat->bw)(k:Fr->Option α):Option α :=
 match d with
 | some t=>bif Zk t n then k ⟨cu fr.aP t v,st⟩ else none
 | none=>k ⟨fr.aP,st⟩
def kX(ops:List Oper)(j:Nat):Option Nat:=(ops[j]?).bind (·.dst)
def eK(n:Nat)(all:List Oper):List Oper->Fr->(Fr->List FP->Option α)->Option α
 | [],fr,k=>k fr []
 | o::os,fr,k =>
  match o.guard with
  | none=>sj E rts fr o fun v st fp=>dm fr n o.dst v st fun bz=>eK n all os bz fun dv lD=>k dv (fp::lD)
  | some (j,want)=>match kX all j with
   | none=>none
   | some g=>(fr.aP g).nN (fun b =>
    aE b
     (match want with
      | true=>sj E rts ⟨cu fr.aP g (.bool Zn),fr.st⟩ o fun v st fp=>dm ⟨cu fr.aP g (.bool Zn),fr.st⟩ n o.dst v st fun bz=>eK n all os bz fun dv lD=>k dv (fp::lD)
      | false=>dm ⟨cu fr.aP g (.bool Zn),fr.st⟩ n o.dst (.aS []) fr.st fun bz=>eK n all os bz fun dv lD=>k dv (.none::lD))
     (match want with
      | false=>sj E rts ⟨cu fr.aP g (.bool Zv),fr.st⟩ o fun v st fp=>dm ⟨cu fr.aP g (.bool Zv),fr.st⟩ n o.dst v st fun bz=>eK n all os bz fun dv lD=>k dv (fp::lD)
      | true=>dm ⟨cu fr.aP g (.bool Zv),fr.st⟩ n o.dst (.aS []) fr.st fun bz=>eK n all os bz fun dv lD=>k dv (.none::lD)))
    (dm fr n o.dst (.aS []) fr.st fun bz=>eK n all os bz fun dv lD=>k dv (.none::lD))
def ins(l:List Nat)(i:Nat):List Nat:=bif l.contains i then l else i::l
def zk(ops:List Oper):List (List Nat) :=
 ops.foldl (fun acc o=>acc++[o.after.toList.foldl (fun l e=>if Region.binds .any e then ins (((acc[e.on]?).getD []).foldl ins l) e.on else l) []]) []
def FP.apart(a b:FP):Bool:=a.wr.all (fun x => !b.rd.contains x && !b.wr.contains x)&&b.wr.all (fun x => !a.rd.contains x)
def slotsOf(o:Oper):List Nat:=o.op.operands.toList.filterMap fun | .tmp t=>Zz t | _=>none
def looks(ops:List Oper)(o:Oper):List Nat :=
 slotsOf o++(match o.guard with | some (g,_)=>(kX ops g).toList | none=>[])
def xJ(ops:List Oper)(x y:Oper):Bool :=
 (match x.dst with | some d => !(looks ops y).contains d&&y.dst != Zz d | none=>Zn) &&
 (match y.dst with | some d => !(looks ops x).contains d | none=>Zn)
def CU(ops:List Oper)(bs:List (List Nat))(lD:List FP)(j:Nat)(oj:Oper)(fj:FP):Bool :=
 (List.range j).all fun i=>((bs[j]?).getD []).contains i||(match ops[i]?,lD[i]? with
  | some oi,Zz fi=>xJ ops oi oj&&fi.apart fj
  | _,_=>Zv)
def We(ops:List Oper):Bool:=(List.range ops.length).all fun j=>match ops[j]? with
 | some o=>o.after.toList.all fun e => !Region.binds .any e||Zk e.on j
 | none=>Zv
def indep(ops:List Oper)(lD:List FP):Bool :=
 let bs:=zk ops
 We ops&&(List.range ops.length).all fun j=>match ops[j]?,lD[j]? with
  | some oj,Zz fj=>CU ops bs lD j oj fj
  | _,_=>Zv
inductive Ex where
 | normal | ret | exit (id:Nat)
def Ex.Sa{ρ:Type}(e:Ex)(a:ρ)(k:Ex->ρ):ρ:=match e with | .normal=>a | .ret=>k .ret | .exit j=>k (.exit j)
def Ex.uQ{ρ:Type}(id:Nat)(e:Ex)(k:Ex->ρ):ρ:=match e with | .normal=>k .normal | .ret=>k .ret | .exit j=>bif Zy j id then k .normal else k (.exit j)
def Ex.SR{ρ:Type}(e:Ex)(a:Option ρ):Option ρ:=match e with | .normal=>a | .ret=>none | .exit _=>none
def Ex.TN{ρ:Type}(e:Ex)(a b:ρ):ρ:=match e with | .normal=>a | .ret=>a | .exit _=>b
def Ex.ow{σ:Type}(e:Ex)(s:σ):σ ⊕ (Ex×σ):=match e with | .normal => .inl s | .ret => .inr (.ret,s) | .exit j => .inr (.exit j,s)
def CH:List Nat->List Nat
 | []=>[]
 | x::r=>bif (CH r).contains x then CH r else x::CH r
def outs:Code->List Nat
 | .seq a b=>outs a++outs b
 | .cond _ a b=>outs a++outs b
 | .block id a=>(outs a).filter fun j => !Zy j id
 | .loop a=>outs a
 | .exit id=>[id]
 | _=>[]
def jO{ρ:Type}(e:Ex)(a:Option ρ)(f:Nat->Option ρ):Option ρ:=match e with | .normal=>none | .ret=>a | .exit j=>f j
def tS{ρ:Type}:List Nat->Nat->(Ex->Option ρ)->Option ρ
 | [],_,_=>none
 | i::is,j,k=>aE (Zy j i) (k (.exit i)) (tS is j k)
def Ex.out{ρ:Type}(ids:List Nat)(e:Ex)(k:Ex->Option ρ):Option ρ:=jO e (k .ret) fun j=>tS ids j k
theorem Ex.zA{ρ:Type}{ids:List Nat}{e:Ex}{k:Ex->Option ρ}{r:ρ}(h:Ex.out ids e k=Zz r):k e=Zz r:=by
 unfold Ex.out jO at h;cases e with
 | normal=>cases h
 | ret=>exact h
 | exit j =>
  simp only at h;induction ids with
  | nil=>cases h
  | cons i is ih =>
   simp only[tS,aE] at h;cases hb:Zy j i with
   | false=>rw[hb] at h;exact ih h
   | true=>rw[hb] at h;rw[Zx hb];exact h
def da:Code->Nat
 | .region id _ _=>id
 | .seq a _=>da a
 | .block _ a=>da a
 | .loop a=>da a
 | .scope a=>da a
 | _=>0
def nO(st:Nat->bw)(L:List Nat)(e z:Nat)(byte:Bool)(v:AV)(k:AV->List Nat->Option α):Option α :=
 match byte with
 | true=>match v with
  | .cY=>k (.bK []) L
  | .row r=>match st r with
   | .eo e' l Zv=>az (Zy e e' && !L.contains r) (k (.bK l) (r::L))
   | _=>none
  | _=>none
 | false=>match v with
  | .cY=>az (Zk 0 z) (k (.aF []) L)
  | .row r=>match st r with
   | .c7 e' z' l Zv=>az (Zy e e'&&Zy z z' && !L.contains r) (k (.aF l) (r::L))
   | _=>none
  | _=>none
def zw(st:Nat->bw)(L:List Nat)(s:Bool)(kd:IntKind)(v:AV)(k:AV->List Nat->Option α):Option α :=
 match v with
 | .mp r=>match st r with
  | .nh s' kd' els=>az ((s==s')&&(kd==kd') && !L.contains r) (k (.aF els) (r::L))
  | _=>none
 | _=>none
def cV:List KC->List AV->(Nat->bw)->List Nat->(List AV->(Nat->bw)->List Nat->FP->Option α)->Option α
 | [],[],st,L,k=>k [] st L .none
 | .kZ c::cs,v::vs,st,L,k=>A7 c v st fun a cc fp=>az (fp.wr.all fun x => !L.contains x) (cV cs vs cc L fun l bT L2 f2=>k (a::l) bT L2 (fp.add f2))
 | .own _ e z b::cs,v::vs,st,L,k=>nO st L e z b v fun a L1=>cV cs vs st L1 fun l bT L2 f2=>k (a::l) bT L2 f2
 | .qS _ s kd::cs,v::vs,st,L,k=>zw st L s kd v fun a L1=>cV cs vs st L1 fun l bT L2 f2=>k (a::l) bT L2 f2
 | _,_,_,_,_=>none
def ci(sl:Nat->AV)(st:Nat->bw)(L:List Nat)(h:iP)(k:List AV->(Nat->bw)->List Nat->FP->Option α):Option α :=
 match h with
 | .val s ty=>(E.ty ty).bind fun i=>out i (sl s) st fun v cc fp=>az (fp.wr.all fun x => !L.contains x) (match cS i.kind with
  | true=>k v.cells cc L fp
  | false=>k [v] cc L fp)
 | .eo s e p=>match sl s with
  | .cY=>k [.bK []] st L .none
  | .row r=>match st r with
   | .eo e' l q=>az (Zy e e'&&(p || !q) && !L.contains r) (k [.bK l] st (r::L) .none)
   | _=>none
  | _=>none
 | .c7 s e z p=>match sl s with
  | .cY=>az (Zk 0 z) (k [.aF []] st L .none)
  | .row r=>match st r with
   | .c7 e' z' l q=>az (Zy e e'&&Zy z z'&&(p || !q) && !L.contains r) (k [.aF l] st (r::L) .none)
   | _=>none
  | _=>none
 | .ptr s b off=>match sl s with
  | .ptr b' Mj=>az (Zy b b'&&Zy off Mj) (k [] st L .none)
  | _=>none
 | .bC s b gT=>match sl s with
  | .bC b' G8=>az (Zy b b'&&gT==G8) (k [] st L .none)
  | _=>none
 | .cells b gy=>match st b with
  | .cells cs=>mn gy cs st fun l cc fp=>az ((fp.wr.all fun x => !L.contains x) && !L.contains b) (k l cc (b::L) fp)
  | _=>none
 | .iz b p=>match st b with
  | .iz l q=>az ((p || !q) && !L.contains b) (k [.bs l] st (b::L) .none)
  | _=>none
 | .jR b rz=>match st b with
  | .cells cs=>cV rz cs st L fun l cc L1 f1=>az (!L1.contains b) (k l cc (b::L1) f1)
  | _=>none
 | .rowAt b h e z=>match h with
  | true=>match st b with
   | .hZ e' z' l=>az (Zy e e'&&Zy z z' && !L.contains b) (k [.aF l] st (b::L) .none)
   | _=>none
  | false=>match st b with
   | .c7 e' z' l q=>az (Zy e e'&&Zy z z' && !q && !L.contains b) (k [.aF l] st (b::L) .none)
   | _=>none
 | .gD s b e z=>match sl s with
  | .bE b' e' z'=>az (Zy b b'&&Zy e e'&&Zy z z') (k [] st L .none)
  | _=>none
def dB(sl:Nat->AV):List iP->(Nat->bw)->List Nat->(List AV->(Nat->bw)->List Nat->FP->Option α)->Option α
 | [],st,L,k=>k [] st L .none
 | h::hs,st,L,k=>ci E sl st L h fun l cc L1 f1=>dB sl hs cc L1 fun r bT L2 f2=>k (l++r) bT L2 (f1.add f2)
def collect(fr:Fr)(hs:List iP)(k:List AV->Option α):Option α:=dB E fr.aP hs fr.st [] fun l _ _ _=>k l
def mM:List CT->List AV->(List AV->List AV->Option α)->Option α
 | [],l,k=>k [] l
 | c::cs,l,k=>ay l fun x r=>fL c x fun x'=>mM cs r fun a b=>k (x'::a) b
def fresh(st:Nat->bw)(b:Nat)(k:Option α):Option α:=match st b with
 | .free=>k
 | _=>none
def mv(st:Nat->bw)(b:Nat)(k:Option α):Option α:=match st b with
 | .free=>k
 | .dead=>k
 | _=>none
def cQ:List KC->List AV->Fr->(List AV->List AV->Fr->Option α)->Option α
 | [],l,fr,k=>k [] l fr
 | .kZ c::cs,l,fr,k=>ay l fun x r=>fL c x fun x'=>cQ cs r fr fun a b dv=>k (x'::a) b dv
 | .own t e z b::cs,l,fr,k=>ay l fun x r=>match b with
  | true=>x.eO fun y=>fresh fr.st t (cQ cs r ⟨fr.aP,cu fr.st t (.eo e y Zv)⟩ fun a b dv=>k (.row t::a) b dv)
  | false=>x.aT fun y=>fresh fr.st t (cQ cs r ⟨fr.aP,cu fr.st t (.c7 e z y Zv)⟩ fun a b dv=>k (.row t::a) b dv)
 | .qS t s kd::cs,l,fr,k=>ay l fun x r=>x.aT fun y=>fresh fr.st t (cQ cs r ⟨fr.aP,cu fr.st t (.nh s kd y)⟩ fun a b dv=>k (.mp t::a) b dv)
def restore:List iP->List AV->Fr->(Fr->Option α)->Option α
 | [],l,fr,k=>aw l (k fr)
 | h::hs,l,fr,k =>
  match h with
  | .val s ty=>(E.ty ty).bind fun i=>match cS i.kind with
   | true=>mM i.gy l fun cs r=>restore hs r ⟨cu fr.aP s (.agg cs),fr.st⟩ k
   | false=>match i.gy with
    | [c]=>ay l fun x r=>fL c x fun x'=>restore hs r ⟨cu fr.aP s x',fr.st⟩ k
    | _=>none
  | .eo s e p=>ay l fun x r=>x.eO fun b=>fresh fr.st (8192+s) (restore hs r ⟨cu fr.aP s (.row (8192+s)),cu fr.st (8192+s) (.eo e b p)⟩ k)
  | .c7 s e z p=>ay l fun x r=>x.aT fun b=>fresh fr.st (8192+s) (restore hs r ⟨cu fr.aP s (.row (8192+s)),cu fr.st (8192+s) (.c7 e z b p)⟩ k)
  | .ptr s b off=>match fr.st b with
   | .cells _=>restore hs l ⟨cu fr.aP s (.ptr b off),fr.st⟩ k
   | .iz _ _=>restore hs l ⟨cu fr.aP s (.ptr b off),fr.st⟩ k
   | _=>none
  | .bC s b gT=>match fr.st b with
   | .cells _=>restore hs l ⟨cu fr.aP s (.bC b gT),fr.st⟩ k
   | _=>none
  | .cells b gy=>mM gy l fun cs r=>mv fr.st b (restore hs r ⟨fr.aP,cu fr.st b (.cells cs)⟩ k)
  | .iz b p=>ay l fun x r=>x.eX fun c=>mv fr.st b (restore hs r ⟨fr.aP,cu fr.st b (.iz c p)⟩ k)
  | .jR b rz=>cQ rz l fr fun cs r dv=>mv dv.st b (restore hs r ⟨dv.aP,cu dv.st b (.cells cs)⟩ k)
  | .rowAt b h e z=>ay l fun x r=>x.aT fun y=>mv fr.st b (match h with
   | true=>restore hs r ⟨fr.aP,cu fr.st b (.hZ e z y)⟩ k
   | false=>restore hs r ⟨fr.aP,cu fr.st b (.c7 e z y Zv)⟩ k)
  | .gD s b e z=>match fr.st b with
   | .hZ .. => restore hs l ⟨cu fr.aP s (.bE b e z),fr.st⟩ k
   | _=>none
def oa:Fr:=⟨fun _ => .undef,fun k=>bif E.hand.contains k then .dead else .free⟩
end
noncomputable def exec(E:Env)(rts:Nat->Option (List Nat))(n:Nat):Code->(α:Type)->Fr->(Ex->Fr->Option α)->Option α
 | .skip,_,fr,k=>k .normal fr
 | .label _,_,fr,k=>k .normal fr
 | .region id ops draw,_,fr,k=>match E.ij (2000000+id) with
  | []=>eK E rts n ops.toList ops.toList fr fun bz lD=>az (!draw||indep ops.toList lD) (k .normal bz)
  | h::hs=>(eK E rts n ops.toList ops.toList fr fun bz lD=>az (!draw||indep ops.toList lD) (collect E bz (h::hs) Zz)).bind fun l=>restore E (h::hs) l (oa E) fun bz=>k .normal bz
 | .seq a b,α,fr,k=>exec E rts n a α fr fun e bz=>e.Sa (exec E rts n b α bz k) fun e=>k e bz
 | .cond c a b,α,fr,k=>match E.ij (3000000+da a) with
  | []=>(cA E fr c).bind fun v=>v.cW fun t=>aE t (exec E rts n a α fr k) (exec E rts n b α fr k)
  | h::hs=>((cA E fr c).bind fun v=>v.cW fun t=>aE t (exec E rts n a (List AV) fr fun e bz=>e.SR (collect E bz (h::hs) Zz)) (exec E rts n b (List AV) fr fun e bz=>e.SR (collect E bz (h::hs) Zz))).bind fun l=>restore E (h::hs) l (oa E) fun bz=>k .normal bz
 | .block id a,α,fr,k=>exec E rts n a α fr fun e bz=>e.uQ id fun e=>k e bz
 | .loop a,_,fr,k =>
  collect E fr (E.ij (da a)) fun M_ =>
   (bF (fun st=>restore E (E.ij (da a)) st (oa E) fun SA=>exec E rts n a (List AV ⊕ (Ex×List AV)) SA fun e bz =>
     collect E bz (E.ij (da a)) fun st'=>Zz (e.ow st')) M_).bind fun r=>restore E (E.ij (da a)) r.2 (oa E) fun bz=>Ex.out (CH (outs a)) r.1 fun e=>k e bz
 | .exit id,_,fr,k=>k (.exit id) fr
 | .ret,_,fr,k=>k .ret fr
 | _,_,_,_=>none
def gu(args:List AV)(j:Nat):Option (Nat×Nat):=match args[j]? with
 | some (.bE _ e z)=>Zz (e,z)
 | _=>none
def Ek(q:Option (Nat×Nat))(cs:List AV):bw:=match q with
 | some q => .hZ q.1 q.2 cs
 | none => .cells cs
def SC:Nat->List AV->Bool
 | _,[]=>Zn
 | j,a::r=>(match a with | .bE k _ _=>Zy k j | .ptr k _=>Zy k j | _=>Zn)&&SC (j+1) r
def entry:Nat->List AV->List (Nat×List AV)->Fr
 | _,args,cg=>⟨fun i=>(args[i]?).getD .undef,fun b=>match cg.find? (fun x=>Zy x.1 b) with | some x=>Ek (gu args b) x.2 | none => .free⟩
section
variable {α:Type} (E:Env)
def NS(fs:List (Nat×Nat))(i:TI)(st:Nat->bw)(L:List Nat)(v:AV)(k:AV->(Nat->bw)->List Nat->Option α):Option α :=
 match PH E.ty fs with
 | some (j,e,ei)=>match v with
  | .agg cs=>match cs[j]? with
   | some (.row r)=>match st r with
    | .c7 e' z l Zv=>az (Zy e e'&&Zy z ei.size && !L.contains r) (mn (i.gy.set j .bool) (cs.set j (.bool Zv)) st fun a cc fp=>az (fp.wr.all fun x => !(r::L).contains x) (k (.agg (a.set j (.aF l))) cc (r::L)))
    | _=>none
   | _=>none
  | _=>none
 | none=>out i v st fun a cc fp=>az (fp.wr.all fun x => !L.contains x) (k a cc L)
def E3(i:TI)(st:Nat->bw)(L:List Nat)(own:Bool)(v:AV)(k:AV->(Nat->bw)->List Nat->Option α):Option α :=
 match own with
 | false=>out i v st fun a cc fp=>az (fp.wr.all fun x => !L.contains x) (k a cc L)
 | true=>match i.kind with
  | .slice e Zn=>match v with
   | .cY=>k (.bK []) st L
   | .row r=>match st r with
    | .eo e' l Zv=>az (Zy e e' && !L.contains r) (k (.bK l) st (r::L))
    | _=>none
   | _=>none
  | .slice e Zv=>match E.ty e with
   | none=>none
   | some ei=>match v with
    | .cY=>az (Zk 0 ei.size) (k (.aF []) st L)
    | .row r=>match st r with
     | .c7 e' z l Zv=>az (Zy e e'&&Zy z ei.size && !L.contains r) (k (.aF l) st (r::L))
     | _=>none
    | _=>none
  | .struct fs=>NS E fs i st L v k
  | _=>out i v st fun a cc fp=>az (fp.wr.all fun x => !L.contains x) (k a cc L)
def JC(sl:Nat->AV)(st:Nat->bw)(L:List Nat)(r:ResultVar)(ty:Nat)(own:Bool)(k:AV->(Nat->bw)->List Nat->Option α):Option α :=
 (E.ty ty).bind fun i=>match r with
  | .tmp t=>E3 E i st L own (sl t) k
  | .cell a t=>(E.ty t).bind fun ti=>jt E ⟨sl,st⟩ ti (sl a) fun v _ _=>E3 E i st L own v k
def s9(sl:Nat->AV):List ResultVar->List Nat->(Nat->bw)->List Nat->Bool->(List AV->(Nat->bw)->List Nat->Option α)->Option α
 | [],[],st,L,_,k=>k [] st L
 | r::rs,ty::jD,st,L,own,k=>JC E sl st L r ty own fun v cc L1=>s9 sl rs jD cc L1 Zv fun l bT L2=>k (v::l) bT L2
 | _,_,_,_,_,_=>none
def pe(as:List AV):List (Nat×List AV)->List Nat->(Nat->bw)->List Nat->(aD->Option α)->Option α
 | [],_,_,_,k=>k []
 | (b,_)::r,jD,st,L,k=>match st b,(jD[b]?).bind E.ty with
  | .cells cs,Zz { kind := .ptr e,.. }=>(E.ty e).bind fun ei=>mn ei.gy cs st fun l cc fp=>az (fp.wr.all fun x => !L.contains x) (pe as r jD cc L fun bs=>k (l::bs))
  | .hZ e z els,_=>match gu as b with
   | some q=>az (Zy e q.1&&Zy z q.2) (pe as r jD st L fun bs=>k (els::bs))
   | none=>none
  | _,_=>none
end
noncomputable def eA(E:Env)(rts:Nat->Option (List Nat))(own:Bool)(fn:Func)(args:List AV)(cg:List (Nat×List AV))(hand:List Nat):Option (AV×aD) :=
 match fn.body with
 | none=>none
 | some c=>az (Zh args.length fn.ntmps&&SC 0 args) (exec { E with hand:=hand } rts fn.ntmps c (AV×aD) (entry 0 args cg) fun e fr=>e.TN (s9 E fr.aP fn.results.toList fn.resultTypes.toList fr.st [] own fun vs st L=>pe E args cg fn.params.toList st L fun bs =>
   match vs with
   | [v]=>Zz (v,bs)
   | vs=>Zz (.aS vs,bs)) none)
noncomputable def Hr(E:Env)(rts:Nat->Option (List Nat))(own:Bool)(fn:Func)(args:List AV)(cg:List (Nat×List AV)):Option (AV×aD):=eA E rts own fn args cg (cg.map (·.1))
end Go.Abs
/- What follows from an eliminator's having a result. -/
namespace Go.Abs
theorem k7{α:Type}{c:CT}{v:AV}{k:AV->Option α}{r:α}(h:fL c v k=Zz r):k v=Zz r:=by
 unfold fL at h;split at h
 ·rename_i kd;unfold AV.ax at h;split at h
  ·rename_i _ k' n;cases he:(k'==kd) with
   | false=>rw[he] at h;cases h
   | true =>
    have:k'=kd:=by simpa using he
    subst this;rw[he] at h;exact h
  ·cases h
 ·unfold AV.oB at h;split at h<;>first | exact h | cases h
 ·unfold AV.cW at h;split at h<;>first | exact h | cases h
 ·unfold AV.gN at h;split at h<;>first | exact h | cases h
 ·unfold AV.eX at h;split at h<;>first | exact h | cases h
 ·rename_i z;unfold AV.ik at h;split at h
  ·rename_i _ z' l;cases he:Zy z' z with
   | false=>rw[he] at h;cases h
   | true =>
    have:=Zx he;subst this;rw[he] at h;exact h
  ·cases h
 ·cases h
theorem fO{α:Type}{l:List AV}{f:AV->List AV->Option α}{r:α}(h:ay l f=Zz r):∃ x t,l=x::t/\f x t=Zz r:=by
 unfold ay at h;split at h
 ·exact⟨_,_,rfl,h⟩
 ·cases h
theorem mC{α:Type}{l:List AV}{f:Option α}{r:α}(h:aw l f=Zz r):l=[]/\f=Zz r:=by
 unfold aw at h;split at h
 ·exact⟨rfl,h⟩
 ·cases h
theorem vm{α:Type}:∀ {cs:List CT} {l:List AV} {k:List AV->Option α} {r:α},mA cs l k=Zz r->k l=Zz r
 | [],l,k,r,h=>by obtain⟨rfl,h⟩:=mC h;exact h
 | c::cs,l,k,r,h=>by
  simp only[mA] at h;obtain⟨x,t,rfl,h1⟩:=fO h;exact vm (k:=fun r'=>k (x::r')) (k7 h1)
theorem tP{α:Type}{v:AV}{f:List AV->Option α}{r:α}(h:v.eL f=Zz r):∃ l,v = .agg l/\f l=Zz r:=by
 unfold AV.eL at h;split at h
 ·exact⟨_,rfl,h⟩
 ·cases h
theorem Dc{α:Type}{v:AV}{f:List AV->Option α}{r:α}(h:v.f_ f=Zz r):∃ l,v = .aS l/\f l=Zz r:=by
 unfold AV.f_ at h;split at h
 ·exact⟨_,rfl,h⟩
 ·cases h
theorem tQ{α:Type}{v:AV}{f:List UInt8->Option α}{r:α}(h:v.gN f=Zz r):∃ l,v = .str l/\f l=Zz r:=by
 unfold AV.gN at h;split at h
 ·exact⟨_,rfl,h⟩
 ·cases h
theorem A5{α:Type}{v:AV}{f:List UInt8->Option α}{r:α}(h:v.eX f=Zz r):∃ l,v = .bs l/\f l=Zz r:=by
 unfold AV.eX at h;split at h
 ·exact⟨_,rfl,h⟩
 ·cases h
theorem sX{α:Type}{v:AV}{f:Bool->Option α}{s:Option α}{r:α}(h:v.nN f s=Zz r):(∃ l,v = .bool l/\f l=Zz r)\/(v = .aS []/\s=Zz r):=by
 unfold AV.nN at h;split at h
 ·exact .inl ⟨_,rfl,h⟩
 ·exact .inr ⟨rfl,h⟩
 ·cases h
theorem Mm{α:Type}{v:AV}{f:Nat->List (Nat×Nat)->List (Nat×Nat)->Option α}{r:α}(h:v.KS f=Zz r):(∃ n,v = .fn n/\f n [] []=Zz r)\/∃ n a b,v = .BV n a b/\f n a b=Zz r:=by
 unfold AV.KS at h;split at h
 ·exact .inl ⟨_,rfl,h⟩
 ·exact .inr ⟨_,_,_,rfl,h⟩
 ·cases h
theorem qR{α:Type}{v:AV}{f:Bool->Option α}{r:α}(h:v.cW f=Zz r):∃ l,v = .bool l/\f l=Zz r:=by
 unfold AV.cW at h;split at h
 ·exact⟨_,rfl,h⟩
 ·cases h
theorem vn{α:Type}{v:AV}{f:List UInt8->Option α}{r:α}(h:v.eO f=Zz r):∃ l,v = .bK l/\f l=Zz r:=by
 unfold AV.eO at h;split at h
 ·exact⟨_,rfl,h⟩
 ·cases h
theorem oA{α:Type}{v:AV}{f:List AV->Option α}{r:α}(h:v.aT f=Zz r):∃ l,v = .aF l/\f l=Zz r:=by
 unfold AV.aT at h;split at h
 ·exact⟨_,rfl,h⟩
 ·cases h
theorem Hd{α:Type}{v:AV}{z:Nat}{f:List AV->Option α}{r:α}(h:v.ik z f=Zz r):∃ l,v = .sl z l/\f l=Zz r:=by
 unfold AV.ik at h;split at h
 ·rename_i z' l;cases he:Zy z' z with
  | false=>rw[he] at h;cases h
  | true =>
   have:=Zx he;subst this;rw[he] at h;exact⟨l,rfl,h⟩
 ·cases h
theorem iU{α:Type}{i:TI}{v:AV}{k:AV->Option α}{r:α}(h:norm i v k=Zz r):k v=Zz r:=by
 unfold norm at h;split at h
 ·obtain⟨l,rfl,h⟩:=tP h;exact vm h
 ·split at h
  ·exact k7 h
  ·cases h
theorem aH{α:Type}{b:Bool}{f:Option α}{r:α}(h:az b f=Zz r):b=Zn/\f=Zz r:=by
 cases b
 ·cases h
 ·exact⟨rfl,h⟩
theorem cp{α:Type}{b:Bool}{f:Option α}{r:α}(h:(bif b then f else none)=Zz r):b=Zn/\f=Zz r:=by
 cases b
 ·cases h
 ·exact⟨rfl,h⟩
theorem A6{α:Type}{l:aD}{f:Option α}{r:α}(h:aO l f=Zz r):l=[]/\f=Zz r:=by
 unfold aO at h;split at h
 ·exact⟨rfl,h⟩
 ·cases h
theorem yN{α:Type}{l:aD}{f:List AV->aD->Option α}{r:α}(h:aM l f=Zz r):∃ x t,l=x::t/\f x t=Zz r:=by
 unfold aM at h;split at h
 ·exact⟨_,_,rfl,h⟩
 ·cases h
theorem EN{α:Type}{o v:AV}{k:AV->Option α}{r:α}(h:wW o v k=Zz r):k v=Zz r/\∀ (β:Type) (k2:AV->Option β),wW o v k2=k2 v:=by
 cases o<;>simp only[wW] at h ⊢;case int kd n =>
  cases v<;>simp only[AV.ax] at h ⊢ <;> try (cases h;done)
  rename_i k' m;cases he:(k'==kd) with
  | false=>rw[he] at h;cases h
  | true =>
   have:k'=kd:=by simpa using he
   subst this;rw[he] at h;exact⟨h,fun _ _=>rfl⟩
 case u8 b=>cases v<;>simp only[AV.oB] at h ⊢ <;> first | (cases h;done) | exact⟨h,fun _ _=>trivial⟩
 case bool b=>cases v<;>simp only[AV.cW] at h ⊢ <;> first | (cases h;done) | exact⟨h,fun _ _=>trivial⟩
 case str b=>cases v<;>simp only[AV.gN] at h ⊢ <;> first | (cases h;done) | exact⟨h,fun _ _=>trivial⟩
 case bs b=>cases v<;>simp only[AV.eX] at h ⊢ <;> first | (cases h;done) | exact⟨h,fun _ _=>trivial⟩
 case sl z b =>
  cases v<;>simp only[AV.ik] at h ⊢ <;> try (cases h;done)
  rename_i z' l;cases he:Zy z' z with
  | false=>rw[he] at h;cases h
  | true =>
   have:=Zx he;subst this;rw[he] at h;exact⟨h,fun _ _=>rfl⟩
 all_goals exact⟨h,fun _ _=>trivial⟩
theorem pA{α:Type}:∀ {os l:List AV} {k:List AV->Option α} {r:α},nW os l k=Zz r->k l=Zz r/\os.length=l.length/\∀ (β:Type) (k2:List AV->Option β),nW os l k2=k2 l
 | [],l,k,r,h=>by obtain⟨rfl,h⟩:=mC h;exact⟨h,rfl,fun _ _=>rfl⟩
 | o::os,l,k,r,h=>by
  simp only[nW] at h;obtain⟨x,t,rfl,h1⟩:=fO h;obtain⟨h2,d2⟩:=EN h1;obtain⟨h3,e3,d3⟩:=pA (k:=fun r'=>k (x::r')) h2;exact⟨h3,by simp[e3],fun β k2=>by simp only[nW,ay];rw[d2,d3]⟩
theorem Dj{α:Type}:∀ {l:List Nat} {n:Nat} {f:Nat->Option α} {r:α},Ba l n f=Zz r->∃ o,l[n]? = Zz o/\f o=Zz r
 | [],n,f,r,h=>by cases h
 | o::l,n,f,r,h=>by
  simp only[Ba,aE] at h;cases n with
  | zero=>exact⟨o,rfl,h⟩
  | succ n =>
   have hb:Zy (n+1) 0=Zv:=rfl;rw[hb] at h;obtain⟨o',h1,h2⟩:=Dj h;exact⟨o',by simpa using h1,h2⟩
theorem uV{op:BinOp}{x y v:AV}(h:z4 op x y=Zz (Zn,v)):mh op x y=Zz v:=by
 have XC:∀ {o:Option AV},(o.map fun v=>(Zn,v))=Zz (Zn,v)->o=Zz v:=fun {o} h=>by
  cases o with
  | none=>cases h
  | some w=>cases h;rfl
 have Xc:∀ {f:IntKind->Int->Int->Bool} {gg:IntKind->Int->Int->AV},gV x y (fun k n m=>Zz (f k n m,gg k n m))=Zz (Zn,v)->gV x y (fun k n m=>az (f k n m) (Zz (gg k n m)))=Zz v:=by
  intro f gg h;unfold gV at h ⊢;split at h
  ·obtain⟨hb,h⟩:=cp h;rw[hb];simp only[Option.some.injEq,Prod.mk.injEq] at h;simp only[h.1,h.2,az,Qa5]
  ·simp only[Option.some.injEq,Prod.mk.injEq] at h;simp only[h.1,h.2,az,Qa5]
  ·cases h
 cases op<;>simp only[z4] at h<;>first | exact XC h | exact Xc h | skip
 ·split at h
  ·simp only[Option.some.injEq,Prod.mk.injEq] at h;simp only[mh,h.1,h.2,az,Qa5]
  ·exact XC h
 all_goals
  split at h
  ·rename_i hm;simp only[Option.some.injEq,Prod.mk.injEq] at h;simp only[mh,hm,h.1,h.2,az,Qa5]
  ·rename_i hm;simp only[Option.some.injEq,Prod.mk.injEq] at h;simp only[mh,hm,h.1,h.2,az,Qa5]
  ·cases h
theorem F4{i:TI}{op:BinOp}{x y v:AV}(h:D6 i op x y=Zz (Zn,v)):D5 i op x y=Zz v:=by
 cases x<;>simp only[D6,D5] at h ⊢ <;> try (first | exact uV h | (cases h;done))
 ·cases hk:i.kind<;>rw[hk] at h<;>simp only at h ⊢ <;> first | exact uV h | (cases h;done)
 ·cases he:i.VK with
  | nil=>rw[he] at h;cases h
  | cons c r =>
   rw[he] at h;simp only at h ⊢;obtain⟨hb,h⟩:=cp h;rw[hb];exact uV h
theorem tT:∀ (cs:List AV) (off:Nat) (n:List AV),off+n.length<=cs.length->qV cs off n=place cs off n
 | [],off,n,h=>by
  have hn:n.length=0:=by simp only[List.length_nil] at h;omega
  have:n=[]:=Yz hn;subst this;simp[qV,place]
 | c::cs,0,n,h=>by
  cases n with
  | nil=>simp[qV,place]
  | cons x r =>
   have:=tT cs 0 r (by simp at h;omega);simp only[qV,this,place,List.take_zero,List.nil_append,Nat.zero_add,List.length_cons,List.drop_succ_cons,List.cons_append]
 | c::cs,k+1,n,h=>by
  have:=tT cs k n (by simp at h;omega);simp only[qV,this,place,List.take_succ_cons,List.cons_append];rw[show k+1+n.length=(k+n.length)+1 by omega,List.drop_succ_cons]
theorem su{sz:Nat}:∀ {els:List AV},(∀ x∈els,x.cells.length=sz)->∀ {n:Nat} {x:AV},els[n]? = Zz x->∀ {j:Nat} {c:AV},x.cells[j]? = Zz c->(els.flatMap AV.cells)[n*sz+j]? = Zz c
 | [],_,n,x,h,_,_,_=>by simp at h
 | y::r,hs,n,x,h,j,c,hj=>by
  have hy:=hs y (by simp);rw[Zg];cases n with
  | zero =>
   simp at h;subst h;have:j<y.cells.length:=(Zq.1 hj).1;rw[Nat.zero_mul,Nat.zero_add,List.getElem?_append_left this];exact hj
  | succ n =>
   simp at h;have ih:=su (fun z hz=>hs z (by simp[hz])) h hj;rw[List.getElem?_append_right (by rw[hy,Yy];omega)];rw[show(n+1)*sz+j-y.cells.length=n*sz+j by rw[hy,Yy];omega];exact ih
theorem iE{sz:Nat}:∀ {els:List AV},(∀ x∈els,x.cells.length=sz)->(els.flatMap AV.cells).length=els.length*sz
 | [],_=>by simp
 | x::r,h=>by
  rw[Zg,List.length_append,iE fun y hy=>h y (by simp[hy]),h x (by simp),List.length_cons,Yy];omega
theorem Jr{α:Type}{c:CT}{v:AV}{k:AV->Option α}{r:α}(h:fL c v k=Zz r):v.cells=[v]:=by
 cases v<;>first | rfl | (cases c<;>simp[fL,AV.ax,AV.oB,AV.cW,AV.gN,AV.eX,AV.ik] at h)
theorem C'{α:Type}{i:TI}{v:AV}{k:AV->Option α}{r:α}(h:norm i v k=Zz r)(ha:cS i.kind=Zv):v.cells=[v]:=by
 unfold norm at h;rw[ha] at h;simp only at h;split at h
 ·exact Jr h
 ·cases h
theorem wX{α:Type}{i:TI}{v:AV}{k:AV->Option α}{r:α}(h:norm i v k=Zz r):match v with | .bK _=>False | .aF _=>False | _=>True:=by
 cases v<;>try trivial
 all_goals
  unfold norm at h;split at h
  ·simp[AV.eL] at h
  ·split at h
   ·rename_i c _;cases c<;>simp[fL,AV.ax,AV.oB,AV.cW,AV.gN,AV.eX,AV.ik] at h
   ·cases h
theorem wV{α:Type}:∀ {gy:List CT} {cs:List AV} {k:List AV->Option α} {r:α},mA gy cs k=Zz r->∀ (j:Nat) (l:List AV),cs[j]? = Zz (.aF l)->False
 | [],cs,k,r,h,j,l,hj=>by
  obtain⟨rfl,_⟩:=mC h;simp at hj
 | c::gy,cs,k,r,h,j,l,hj=>by
  obtain⟨x,q,rfl,h2⟩:=fO h;cases j with
  | zero =>
   simp only[List.getElem?_cons_zero,Option.some.injEq] at hj;subst hj;cases c<;>simp[fL,AV.ax,AV.oB,AV.cW,AV.gN,AV.eX,AV.ik] at h2
  | succ j =>
   have h3:=k7 h2;exact wV h3 j l (by simpa using hj)
theorem A3{α:Type}{i:TI}{cs:List AV}{k:AV->Option α}{r:α}(h:norm i (.agg cs) k=Zz r)(j:Nat)(l:List AV)(hj:cs[j]? = Zz (.aF l)):False:=by
 unfold norm at h;split at h
 ·exact wV h j l hj
 ·split at h
  ·rename_i c _;cases c<;>simp[fL,AV.ax,AV.oB,AV.cW,AV.gN,AV.eX,AV.ik] at h
  ·cases h
theorem C_{α:Type}{t:Nat}:∀ {j:Nat} {gy:List CT} {cs:List AV} {k:List AV->List AV->Option α} {r:α},pd t j gy cs k=Zz r->∃ l,cs[j]? = Zz (.aF l)/\k (cs.set j (.row t)) l=Zz r
 | 0,[],cs,k,r,h=>by simp only[pd] at h;cases h
 | j+1,[],cs,k,r,h=>by simp only[pd] at h;cases h
 | 0,c::gy,cs,k,r,h=>by
  simp only[pd] at h;obtain⟨x,q,rfl,h2⟩:=fO h;obtain⟨l,rfl,h3⟩:=oA h2;exact⟨l,by simp,by simpa using vm h3⟩
 | j+1,c::gy,cs,k,r,h=>by
  simp only[pd] at h;obtain⟨x,q,rfl,h2⟩:=fO h;obtain⟨l,h4,h5⟩:=C_ (k7 h2);exact⟨l,by simpa using h4,by simpa using h5⟩
theorem LU{α:Type}{E:Env}{fs:List (Nat×Nat)}{t:Nat}{i:TI}{v:AV}{st:Nat->bw}{k:AV->(Nat->bw)->FP->Option α}{r:α}(h:GD E fs t i v st k=Zz r) :
  (∃ cs j l e ei,v = .agg cs/\cs[j]? = Zz (.aF l)/\st t = .free/\PH E.ty fs=Zz (j,e,ei)/\k (.agg (cs.set j (.row t))) (cu st t (.c7 e ei.size l Zv)) ⟨[t],[t]⟩=Zz r)\/norm i v (fun v'=>k v' st .none)=Zz r:=by
 unfold GD at h;split at h
 ·rename_i j e ei hf;split at h
  ·rename_i ht;obtain⟨cs,rfl,h2⟩:=tP h;obtain⟨l,h3,h4⟩:=C_ h2;exact .inl ⟨cs,j,l,e,ei,rfl,h3,ht,hf,h4⟩
  ·cases h
 ·exact .inr h
end Go.Abs
/- The types of a program, as the abstract interpreter sees them. -/
namespace Go.Abs
def Cm(P:Program)(t:Nat):Bool :=
 match P.underlying t,P.info? t with
 | some (.int .u8),Zz i=>i.size==1&&i.bytes==1&&(match i.zero with | some (.int .u8 0)=>Zn | _=>Zv)
 | _,_=>Zv
def sized(P:Program)(t:Nat):Bool:=match P.info? t with | some i=>Zk 0 i.size | none=>Zv
def Kg(P:Program):Nat->Nat->Option (List CT)
 | 0,_=>none
 | n+1,t=>match P.underlying t with
  | some (.int .u8)=>Zz [.u8]
  | some (.int k)=>Zz [.int k]
  | some .bool=>Zz [.bool]
  | some .string=>Zz [.str]
  | some (.slice e)=>Zz [if Cm P e then .fT else .sl (match P.info? e with | some i=>i.size | none=>0)]
  | some (.pointer _)=>Zz [.ptr]
  | some (.map _ _)=>Zz [.other]
  | some (.func _ _ _)=>Zz [.other]
  | some (.struct fs)=>fs.toList.foldr (fun f acc=>match Kg P n f.type,acc with | some a,Zz b=>Zz (a++b) | _,_=>none) (Zz [])
  | some (.array k e)=>match Kg P n e with
   | some l=>Zz ((List.replicate k l).flatten)
   | none=>none
  | _=>none
def gm(P:Program)(t:Nat):Option TK :=
 match P.underlying t with
 | some (.int .u8)=>Zz .u8
 | some (.int k)=>Zz (.int k)
 | some .bool=>Zz .bool
 | some .string=>Zz .str
 | some (.slice e)=>Zz (.slice e (Cm P e))
 | some (.pointer e)=>Zz (.ptr e)
 | some (.array n e)=>Zz (.cM n e (Cm P e))
 | some (.map k e)=>Zz (.map k e)
 | some (.struct fs) => if fs.toList.all (fun f => sized P f.type && f.name != "_") then Zz (.struct (fs.toList.map fun f => (f.offset, f.type))) else none
 | some (.func _ _ _)=>Zz .other
 | _=>none
def wN(P:Program):List Field->Nat->Bool
 | [],_=>Zn
 | f :: r, o => f.offset == o && f.name != "_" && (match P.info? f.type with | some i => Zk 0 i.size && wN P r (o + i.size) | none => Zv)
def Kf(k:IntKind):CT:=match k with | .u8 => .u8 | k => .int k
def KB(a:Option (List CT))(i:Option TypeInfo)(b:Option (List CT)):Option (List CT) :=
 match a with
 | some a=>match i with
  | some i=>match b with
   | some b=>if a.length=i.size then Zz (a++b) else none
   | none=>none
  | none=>none
 | none=>none
def ur(P:Program):Nat->Nat->Option (List CT)
 | 0,_=>none
 | n+1,t=>match P.underlying t,P.info? t with
  | some (.int k),Zz i=>if i.size=1 then Zz [Kf k] else none
  | some .bool,Zz i=>if i.size=1 then Zz [.bool] else none
  | some .string,Zz i=>if i.size=1 then Zz [.str] else none
  | some (.struct fs),Zz i=>if P.stoodInHeld t=Zv/\wN P fs.toList 0=Zn then fs.toList.foldr (fun f acc=>KB (ur P n f.type) (P.info? f.type) acc) (Zz []) else none
  | _,_=>none
def Fp(z:Option Value)(k:TK):Bool:=match z with
 | some (.agg _)=>cS k
 | some _ => !cS k
 | none=>Zv
def ez(P:Program)(t:Nat):Option TI :=
 match P.info? t,gm P t,Kg P 20 t with
 | some i,Zz k,Zz gy=>match i.zero.bind fun v=>nM v.cells.toList with
  | some z=>if z.length=i.size&&gy.length=i.size&&Fp i.zero k then Zz ⟨i.size,i.bytes,k,z,gy,if P.eqGuardType P.depth t=Zv then(ur P 20 t).getD [] else[]⟩ else none
  | none=>none
 | _,_,_=>none
end Go.Abs
/- What it means that a value of the model's, in a world, is one of the abstract interpreter's; and that this stays so. -/
namespace Go.Abs
abbrev bq:=Nat->Nat
def jk(b:UInt8):Value := .int .u8 b.toNat
inductive bM (w:World) (p:bq):Value->AV->Prop
 | int {k:IntKind} {n:Int} (hk:k ≠ .u8):bM w p (.int k n) (.int k n)
 | u8 {b:UInt8}:bM w p (jk b) (.u8 b)
 | bool {b:Bool}:bM w p (.bool b) (.bool b)
 | str {s:ByteArray} {l:List UInt8} (h:s.data.toList=l):bM w p (.string s) (.str l)
 | bs {a:Option Addr} {len cap:Nat} {l:List UInt8} (β off:Nat) (hl:l.length=len) (hc:len<=cap) (ha:len=0\/a=Zz ⟨β,off,none⟩)
   (h:∀ i b,l[i]? = Zz b->off+i<p β/\w.cell? ⟨β,off+i,none⟩=Zz (jk b)):bM w p (.slice a len cap) (.bs l)
 | sl {a:Option Addr} {len cap sz:Nat} {els:List AV} (β off:Nat) (vs:Nat->Value) (hl:els.length=len) (hc:len<=cap) (eZ:∀ e∈els,e.cells.length=sz) (ha:len=0\/a=Zz ⟨β,off,none⟩)
   (h:∀ j c,(els.flatMap AV.cells)[j]? = Zz c->off+j<p β/\w.cell? ⟨β,off+j,none⟩=Zz (vs j))
   (hr:∀ j c,(els.flatMap AV.cells)[j]? = Zz c->bM w p (vs j) c):bM w p (.slice a len cap) (.sl sz els)
 | cY {a:Option Addr}:bM w p (.slice a 0 0) .cY
 | mc:bM w p (.pointer none) .mc
 | EK:bM w p (.map none) .EK
 | wT:bM w p .nilFunc .wT
 | fn {f:Nat}:bM w p (.func (.func f) #[] #[]) (.fn f)
 | jz {β off:Nat} {cs:List AV} (vs:Nat->Value) (h:∀ j c,cs[j]? = Zz c->off+j<p β/\w.cell? ⟨β,off+j,none⟩=Zz (vs j))
   (hr:∀ j c,cs[j]? = Zz c->bM w p (vs j) c):bM w p (.pointer (Zz ⟨β,off,none⟩)) (.jz cs)
structure aV (R:Value->AV->Prop) (vs:List Value) (cs:List AV):Prop where
 len:vs.length=cs.length
 each:∀ (i:Nat) (v:Value) (c:AV),vs[i]? = Zz v->cs[i]? = Zz c->R v c
theorem aV.imp{R R':Value->AV->Prop}{vs:List Value}{cs:List AV}(h:aV R vs cs)(hr:∀ v c,R v c->R' v c):aV R' vs cs :=
 ⟨h.len,fun i v c hv hc=>hr v c (h.each i v c hv hc)⟩
theorem aV.nil{R:Value->AV->Prop}:aV R [] []:=⟨rfl,fun i v c hv=>by simp at hv⟩
theorem aV.cons{R:Value->AV->Prop}{v:Value}{c:AV}{vs:List Value}{cs:List AV}(h:R v c)(t:aV R vs cs):aV R (v::vs) (c::cs) :=
 ⟨by simp[t.len],fun i x y hx hy=>by
  cases i with
  | zero=>simp at hx hy;subst hx;subst hy;exact h
  | succ i=>simp at hx hy;exact t.each i x y hx hy⟩
theorem aV.gY{R:Value->AV->Prop}{vs:List Value}{c:AV}{cs:List AV}(h:aV R vs (c::cs)):∃ v Q6,vs=v::Q6/\R v c/\aV R Q6 cs:=by
 cases vs with
 | nil=>have:=h.len;simp at this
 | cons v Q6=>exact⟨v,Q6,rfl,h.each 0 v c rfl rfl,by have:=h.len;simpa using this,fun i x y hx hy=>h.each (i+1) x y (by simpa using hx) (by simpa using hy)⟩
theorem aV.jd{R:Value->AV->Prop}{vs:List Value}(h:aV R vs []):vs=[]:=Yz (by simpa using h.len)
theorem aV.get{R:Value->AV->Prop}{vs:List Value}{cs:List AV}(h:aV R vs cs){i:Nat}{c:AV}(hc:cs[i]? = Zz c):∃ v,vs[i]? = Zz v/\R v c:=by
 have hi:i<cs.length:=(Zq.1 hc).1;have ji:i<vs.length:=by rw[h.len];exact hi
 exact⟨vs[i],Zb ji,h.each i _ c (Zb ji) hc⟩
theorem aV.drop{R:Value->AV->Prop}{vs:List Value}{cs:List AV}(h:aV R vs cs)(n:Nat):aV R (vs.drop n) (cs.drop n) :=
 ⟨by simp[h.len],fun i v c hv hc=>h.each (n+i) v c (by simpa using hv) (by simpa using hc)⟩
theorem aV.take{R:Value->AV->Prop}{vs:List Value}{cs:List AV}(h:aV R vs cs)(n:Nat):aV R (vs.take n) (cs.take n) :=
 ⟨by simp[h.len],fun i v c hv hc=>by
  rw[Zj] at hv hc;split at hv
  ·rw[Qa1 ‹_›] at hc;exact h.each i v c hv hc
  ·cases hv⟩
theorem aV.append{R:Value->AV->Prop}{vs us:List Value}{cs ds:List AV}(h:aV R vs cs)(k:aV R us ds):aV R (vs++us) (cs++ds) :=
 ⟨by simp[h.len,k.len],fun i v c hv hc=>by
  rw[List.getElem?_append] at hv hc;rw[h.len] at hv;split at hv
  ·rw[Qa1 ‹_›] at hc;exact h.each i v c hv hc
  ·rw[Qa0 ‹_›] at hc;exact k.each _ v c hv hc⟩
def bH:Value->Option Nat
 | .pointer (Zz a)=>Zz a.block
 | .slice (Zz a) _ cap=>if cap=0 then none else Zz a.block
 | .map (Zz r)=>Zz r
 | _=>none
section
variable (w:World) (p:bq) (g:Nat->Value) (u:Nat->Prop)
inductive cw:Value->AV->Prop
 | kZ {v:Value} {a:AV} (h:bM w p v a):cw v a
 | ptr {k off β:Nat} (hu:u k) (hg:g k = .pointer (Zz ⟨β,0,none⟩)):cw (.pointer (Zz ⟨β,off,none⟩)) (.ptr k off)
 | ju {k i sz off β:Nat} (hu:u k) (hg:bH (g k)=Zz β):cw (.pointer (Zz ⟨β,i*sz+off,none⟩)) (.ju k i sz off)
 | row {k:Nat} (hu:u k) (hs:∃ a l c,g k = .slice a l c):cw (g k) (.row k)
 | mp {k β:Nat} (hu:u k) (hg:g k = .map (Zz β)):cw (.map (Zz β)) (.mp k)
 | bE {k e sz:Nat} (hu:u k) (hs:∃ a l c,g k = .slice a l c):cw (g k) (.bE k e sz)
 | bC {k β b cap:Nat} {gT:List Nat} (hu:u k) (hg:g k = .pointer (Zz ⟨b,0,none⟩)) (h:∀ (j off:Nat),gT[j]? = Zz off->j<p β/\w.cell? ⟨β,j,none⟩=Zz (.pointer (Zz ⟨b,off,none⟩))):cw (.slice (Zz ⟨β,0,none⟩) gT.length cap) (.bC k gT)
 | qd {k β j off b:Nat} (hu:u k) (hg:g k = .pointer (Zz ⟨b,0,none⟩)) (hp:j<p β) (hc:w.cell? ⟨β,j,none⟩=Zz (.pointer (Zz ⟨b,off,none⟩))):cw (.pointer (Zz ⟨β,j,none⟩)) (.qd k off)
 | pre {k n β l cap:Nat} (hu:u k) (hg:g k = .slice (Zz ⟨β,0,none⟩) l cap) (hn:n<=l):cw (.slice (Zz ⟨β,0,none⟩) n cap) (.pre k n)
 | Fu {k m β l cap:Nat} {a:Option Addr} (hu:u k) (hg:g k = .slice (Zz ⟨β,0,none⟩) l cap) (hm:m<=l) (ha:m=l\/a=Zz ⟨β,m,none⟩):cw (.slice a (l-m) (cap-m)) (.Fu k m)
 | BV {f:Nat} {vs us:Array Value} {fs cs:List (Nat×Nat)} (h1:vs.size=fs.length) (h2:us.size=cs.length)
   (hf:∀ (j k off:Nat),fs[j]? = Zz (k,off)->u k/\∃ β,g k = .pointer (Zz ⟨β,0,none⟩)/\vs[j]? = Zz (.pointer (Zz ⟨β,off,none⟩)))
   (hc:∀ (j k off:Nat),cs[j]? = Zz (k,off)->u k/\∃ β,g k = .pointer (Zz ⟨β,0,none⟩)/\us[j]? = Zz (.pointer (Zz ⟨β,off,none⟩))):cw (.func (.func f) vs us) (.BV f fs cs)
def vH(v:Value)(a:AV):Prop :=
 cw w p g u v a\/∃ cM cs,v = .agg cM/\a = .agg cs/\aV (cw w p g u) cM.toList cs
def bj(v:Value)(a:AV):Prop :=
 a = .undef\/vH w p g u v a\/∃ cM as,v = .tuple cM/\a = .aS as/\aV (vH w p g u) cM.toList as
end
structure cG (w:World) (p:bq) (g:Nat->Value) (u:Nat->Prop) (w':World) (p':bq) (g':Nat->Value) (u':Nat->Prop):Prop where
 lj:∀ β,p β<=p' β
 cell:∀ β i,i<p β->w'.cell? ⟨β,i,none⟩=w.cell? ⟨β,i,none⟩
 gk:∀ k,u k->g' k=g k
 uk:∀ k,u k->u' k
theorem bM.mono{w w':World}{p p':bq}(hp:∀ β,p β<=p' β)(hc:∀ β i,i<p β->w'.cell? ⟨β,i,none⟩=w.cell? ⟨β,i,none⟩){v:Value}{a:AV}(h:bM w p v a):bM w' p' v a:=by
 induction h with
 | int hk=>exact .int hk
 | u8=>exact .u8
 | bool=>exact .bool
 | str h=>exact .str h
 | bs β off hl mw ha h=>exact .bs β off hl mw ha fun i b hb=>⟨Zf (h i b hb).1 (hp β),(hc β _ (h i b hb).1).trans (h i b hb).2⟩
 | sl β off vs hl mw eZ ha h _ ih=>exact .sl β off vs hl mw eZ ha (fun j c hj=>⟨Zf (h j c hj).1 (hp β),(hc β _ (h j c hj).1).trans (h j c hj).2⟩) ih
 | cY=>exact .cY
 | mc=>exact .mc
 | EK=>exact .EK
 | wT=>exact .wT
 | fn=>exact .fn
 | jz vs h _ ih=>exact .jz vs (fun j c hj=>⟨Zf (h j c hj).1 (hp _),(hc _ _ (h j c hj).1).trans (h j c hj).2⟩) ih
section
variable {w w':World} {p p':bq} {g g':Nat->Value} {u u':Nat->Prop}
theorem cG.refl:cG w p g u w p g u:=⟨fun _=>Zd _,fun _ _ _=>rfl,fun _ _=>rfl,fun _ h=>h⟩
theorem cG.trans{w'':World}{p'':bq}{g'':Nat->Value}{u'':Nat->Prop}(h:cG w p g u w' p' g' u')(k:cG w' p' g' u' w'' p'' g'' u''):cG w p g u w'' p'' g'' u'' :=
 ⟨fun β=>Nat.le_trans (h.lj β) (k.lj β),fun β i hi=>(k.cell β i (Zf hi (h.lj β))).trans (h.cell β i hi),fun x hx=>(k.gk x (h.uk x hx)).trans (h.gk x hx),fun x hx=>k.uk x (h.uk x hx)⟩
theorem cG.ui(m:cG w p g u w' p' g' u'){v:Value}{a:AV}(h:bM w p v a):bM w' p' v a:=h.mono m.lj m.cell
theorem cG.Ct(m:cG w p g u w' p' g' u'){v:Value}{a:AV}(h:cw w p g u v a):cw w' p' g' u' v a:=by
 cases h with
 | kZ h=>exact .kZ (m.ui h)
 | ptr hu hg=>exact .ptr (m.uk _ hu) ((m.gk _ hu).trans hg)
 | ju hu hg=>exact .ju (m.uk _ hu) (by rw[m.gk _ hu];exact hg)
 | row hu hs=>rw[<-m.gk _ hu];exact .row (m.uk _ hu) (by rw[m.gk _ hu];exact hs)
 | mp hu hg=>exact .mp (m.uk _ hu) ((m.gk _ hu).trans hg)
 | bE hu hs=>rw[<-m.gk _ hu];exact .bE (m.uk _ hu) (by rw[m.gk _ hu];exact hs)
 | bC hu hg h=>exact .bC (m.uk _ hu) ((m.gk _ hu).trans hg) fun j off hj=>⟨Zf (h j off hj).1 (m.lj _),(m.cell _ _ (h j off hj).1).trans (h j off hj).2⟩
 | qd hu hg hp hc=>exact .qd (m.uk _ hu) ((m.gk _ hu).trans hg) (Zf hp (m.lj _)) ((m.cell _ _ hp).trans hc)
 | pre hu hg hn=>exact .pre (m.uk _ hu) ((m.gk _ hu).trans hg) hn
 | Fu hu hg hm ha=>exact .Fu (m.uk _ hu) ((m.gk _ hu).trans hg) hm ha
 | BV h1 h2 hf hc=>exact .BV h1 h2 (fun j k off hj=>by obtain⟨hu,β,hg,hv⟩:=hf j k off hj;exact⟨m.uk _ hu,β,(m.gk _ hu).trans hg,hv⟩) (fun j k off hj=>by obtain⟨hu,β,hg,hv⟩:=hc j k off hj;exact⟨m.uk _ hu,β,(m.gk _ hu).trans hg,hv⟩)
theorem cG.MA(m:cG w p g u w' p' g' u'){v:Value}{a:AV}(h:vH w p g u v a):vH w' p' g' u' v a:=by
 rcases h with h | ⟨cM,cs,rfl,rfl,h⟩
 ·exact .inl (m.Ct h)
 ·exact .inr ⟨cM,cs,rfl,rfl,h.imp fun _ _=>m.Ct⟩
theorem cG.zi(m:cG w p g u w' p' g' u'){v:Value}{a:AV}(h:bj w p g u v a):bj w' p' g' u' v a:=by
 rcases h with h | h | ⟨cM,cs,rfl,rfl,h⟩
 ·exact .inl h
 ·exact .inr (.inl (m.MA h))
 ·exact .inr (.inr ⟨cM,cs,rfl,rfl,h.imp fun _ _=>m.MA⟩)
end
def j5(w:World)(B e size:Nat)(v:Value)(n:Nat)(xs:List Value):Prop :=
 xs.length=n*size/\((n=0/\∃ a,v = .slice a 0 0) \/
  ∃ β cap jl,v = .slice (Zz ⟨β,0,none⟩) n cap/\0<cap/\B<=β/\w.heap[β]? = Zz (.cells jl e (0,0))/\n<=cap/\cap<=maxLen/\jl.size=cap*size/\jl.toList.take (n*size)=xs)
def used(st:Nat->bw)(k:Nat):Prop:=st k ≠ .free
def uO(w:World)(p:bq)(β e sz cap:Nat)(els:List AV):Prop :=
 0<sz/\(∀ x∈els,x.cells.length=sz)/\0<cap/\els.length<=cap/\cap<=maxLen/\p β=0/\∃ jl vs,w.heap[β]? = Zz (.cells jl e (0,0))/\jl.size=cap*sz/\vs.length=els.length*sz/\jl.toList.take (els.length*sz)=vs/\aV (bM w p) vs (els.flatMap AV.cells)
def xH(w:World)(p:bq)(s:Bool)(kd:IntKind)(es:Array MapEntry)(els:List AV):Prop :=
 es.size=els.length/\∀ (i:Nat) (e:MapEntry) (a:AV),es[i]? = Zz e->els[i]? = Zz a->∃ ka va,a = .aS [ka,va]/\o9 s kd ka=Zn/\bM w p e.key ka/\(bM w p e.val va\/∃ cM cs,e.val = .agg cM/\va = .agg cs/\aV (bM w p) cM.toList cs)
theorem uO.ij{w w':World}{p p':bq}{β e sz cap:Nat}{els:List AV}(h:uO w p β e sz cap els)(hr:∀ v a,bM w p v a->bM w' p' v a)(e1:w'.heap[β]? = w.heap[β]?)(e2:p' β=p β):uO w' p' β e sz cap els:=by
 obtain⟨h1,h2,h3,h4,h5,h6,jl,vs,h7,h8,h9,TT,WQ⟩:=h;exact⟨h1,h2,h3,h4,h5,e2.trans h6,jl,vs,e1.trans h7,h8,h9,TT,WQ.imp hr⟩
theorem xH.mono{w w':World}{p p':bq}{s:Bool}{kd:IntKind}{es:Array MapEntry}{els:List AV}(h:xH w p s kd es els)(hr:∀ v a,bM w p v a->bM w' p' v a):xH w' p' s kd es els:=by
 refine⟨h.1,fun i e a he ha=> ?_⟩;obtain⟨ka,va,h1,h2,h3,h4⟩:=h.2 i e a he ha;refine⟨ka,va,h1,h2,hr _ _ h3,?_⟩;rcases h4 with h4 | ⟨cM,cs,e1,e2,e3⟩
 ·exact .inl (hr _ _ h4)
 ·exact .inr ⟨cM,cs,e1,e2,e3.imp hr⟩
def mg(w:World)(p:bq)(g:Nat->Value)(u:Nat->Prop)(B:Nat)(M:Nat->Prop)(k:Nat):bw->Prop
 | .free=>True
 | .dead=>True
 | .cells cs=>∃ β c e,g k = .pointer (Zz ⟨β,0,none⟩)/\(M β\/B<=β)/\w.heap[β]? = Zz (.cells c e (0,0))/\aV (cw w p g u) c.toList cs/\p β=0
 | .iz l gU=>∃ β c e,g k = .pointer (Zz ⟨β,0,none⟩)/\B<=β/\w.heap[β]? = Zz (.cells c e (0,0))/\c.toList=l.map jk/\p β<=l.length/\(gU=Zv->p β=0)
 | .eo e l gU=>j5 w B e 1 (g k) l.length (l.map jk)/\∀ β,bH (g k)=Zz β->p β<=l.length/\(gU=Zv->p β=0)
 | .c7 e sz els gU=>0<sz/\(∀ x∈els,x.cells.length=sz)/\∃ vs,j5 w B e sz (g k) els.length vs/\aV (bM w p) vs (els.flatMap AV.cells) /\
   ∀ β,bH (g k)=Zz β->p β<=els.length*sz/\(gU=Zv->p β=0)
 | .nh s kd els=>∃ β es clock,g k = .map (Zz β)/\B<=β/\w.heap[β]? = Zz (.map es clock)/\xH w p s kd es els/\p β=0
 | .hZ e sz els=>∃ β cap,g k = .slice (Zz ⟨β,0,none⟩) els.length cap/\(M β\/B<=β)/\uO w p β e sz cap els
def bw.live:bw->Prop
 | .free=>False
 | .dead=>False
 | _=>True
structure bU (B:Nat) (M:Nat->Prop) (w0:World) (p0:bq) (w:World) (p:bq) (g:Nat->Value) (st:Nat->bw):Prop where
 os:w.os=w0.os
 tape:w.tape=w0.tape
 output:w.output=w0.output
 size:B<=w.heap.size
 old:∀ β,β<B->¬ M β->w.heap[β]? = w0.heap[β]?
 l_:∀ k,mg w p g (used st) B M k (st k)
 rI:∀ k k' β,k≠k'->(st k).live->(st k').live->bH (g k)=Zz β->bH (g k')≠Zz β
 lT:∀ β,w.heap.size<=β->p β=0
 Mk:∀ β,β<B->p β=p0 β
theorem eN{w:World}{β i:Nat}{c:Array Value}{e:TypeId}{f:Nat×Nat}(h:w.heap[β]? = Zz (.cells c e f)):w.cell? ⟨β,i,none⟩=c[i]? := by
 simp[World.cell?,h]
theorem kC{w:World}{β:Nat}{o:Obj}(h:w.heap[β]? = Zz o):β<w.heap.size:=(Array.getElem?_eq_some_iff.1 h).1
theorem nU{w w':World}{β:Nat}(h:w'.heap[β]? = w.heap[β]?)(i:Nat):w'.cell? ⟨β,i,none⟩=w.cell? ⟨β,i,none⟩:=by
 simp[World.cell?,h]
theorem aQ{β:Type}(f:Nat->β)(k:Nat)(b:β):cu f k b k=b:=by simp[cu]
theorem bP{β:Type}(f:Nat->β){k x:Nat}(b:β)(h:x≠k):cu f k b x=f x:=by
 have hb:Zy x k=Zv:=by
  cases hb:Zy x k
  ·rfl
  ·exact absurd (Zx hb) h
 simp[cu,hb]
theorem j5.ij{w w':World}{B e size:Nat}{v:Value}{n:Nat}{xs:List Value}(h:j5 w B e size v n xs)(hk:∀ β,bH v=Zz β->w'.heap[β]? = w.heap[β]?):j5 w' B e size v n xs:=by
 obtain⟨hl,h | ⟨β,cap,jl,rfl,h0,hB,hh,r⟩⟩:=h
 ·exact⟨hl,.inl h⟩
 ·exact⟨hl,.inr ⟨β,cap,jl,rfl,h0,hB,by rw[hk β (by simp[bH];omega)];exact hh,r⟩⟩
theorem mg.ij{w w':World}{p p':bq}{g g':Nat->Value}{u u':Nat->Prop}{B:Nat}{M:Nat->Prop}{k:Nat}{b:bw}(h:mg w p g u B M k b)(m:cG w p g u w' p' g' u')(hu:u k)
  (hk:∀ β,bH (g k)=Zz β->w'.heap[β]? = w.heap[β]? /\ p' β=p β):mg w' p' g' u' B M k b:=by
 have hg:=m.gk k hu;cases b with
 | free=>trivial
 | dead=>trivial
 | cells cs =>
  obtain⟨β,c,e,h1,h2,h3,h4,h5⟩:=h;obtain⟨e1,e2⟩:=hk β (by rw[h1];rfl);exact⟨β,c,e,hg.trans h1,h2,e1.trans h3,h4.imp fun _ _=>m.Ct,e2.trans h5⟩
 | iz l gU =>
  obtain⟨β,c,e,h1,h2,h3,h4,h5,h6⟩:=h;obtain⟨e1,e2⟩:=hk β (by rw[h1];rfl);exact⟨β,c,e,hg.trans h1,h2,e1.trans h3,h4,by rw[e2];exact h5,fun x=>e2.trans (h6 x)⟩
 | eo e l gU =>
  obtain⟨h1,h2⟩:=h;refine⟨by rw[hg];exact h1.ij fun β hb=>(hk β hb).1,fun β hb=> ?_⟩;rw[hg] at hb;rw[(hk β hb).2];exact h2 β hb
 | c7 e sz els gU =>
  obtain⟨h0,h1,vs,h2,h3,h4⟩:=h;refine⟨h0,h1,vs,by rw[hg];exact h2.ij fun β hb=>(hk β hb).1,h3.imp fun _ _=>m.ui,fun β hb=> ?_⟩;rw[hg] at hb;rw[(hk β hb).2];exact h4 β hb
 | nh s kd els =>
  obtain⟨β,es,clock,h1,h2,h3,h4,h5⟩:=h;obtain⟨e1,e2⟩:=hk β (by rw[h1];rfl);exact⟨β,es,clock,hg.trans h1,h2,e1.trans h3,h4.mono fun _ _=>m.ui,e2.trans h5⟩
 | hZ e sz els =>
  obtain⟨β,cap,h1,h2,h3⟩:=h;obtain⟨e1,e2⟩:=hk β (by rw[h1];have:=h3.2.2.1;simp[bH];omega);exact⟨β,cap,hg.trans h1,h2,h3.ij (fun _ _=>m.ui) e1 e2⟩
theorem nV{st:Nat->bw}{k:Nat}(h:(st k).live):used st k:=fun e=>by rw[e] at h;exact h
theorem mg.uc{w:World}{p:bq}{g:Nat->Value}{u:Nat->Prop}{B:Nat}{M:Nat->Prop}{k:Nat}{b:bw}(h:mg w p g u B M k b)(hl:b.live){β:Nat}(hv:bH (g k)=Zz β):β<w.heap.size:=by
 cases b with
 | free=>exact hl.elim
 | dead=>exact hl.elim
 | cells cs=>obtain⟨β',c,e,h1,h2,h3,_⟩:=h;rw[h1] at hv;cases hv;exact kC h3
 | iz l gU=>obtain⟨β',c,e,h1,h2,h3,_⟩:=h;rw[h1] at hv;cases hv;exact kC h3
 | eo e l gU =>
  obtain⟨⟨_,⟨_,a,h⟩ | ⟨β',cap,jl,h,h0,hB,hh,_⟩⟩,_⟩:=h
  ·rw[h] at hv;cases a<;>simp[bH] at hv
  ·rw[h] at hv;have:β'=β:=by simp[bH] at hv;exact hv.2
   subst this;exact kC hh
 | c7 e sz els gU =>
  obtain⟨_,_,vs,⟨_,⟨_,a,h⟩ | ⟨β',cap,jl,h,h0,hB,hh,_⟩⟩,_⟩:=h
  ·rw[h] at hv;cases a<;>simp[bH] at hv
  ·rw[h] at hv;have:β'=β:=by simp[bH] at hv;exact hv.2
   subst this;exact kC hh
 | nh s kd els=>obtain⟨β',es,clock,h1,h2,h3,_⟩:=h;rw[h1] at hv;cases hv;exact kC h3
 | hZ e sz els =>
  obtain⟨β',cap,h1,h2,h3,h4,h5,h6,h7,h8,jl,vs,h9,_⟩:=h;rw[h1] at hv;have:β'=β:=by simp[bH] at hv;exact hv.2
  subst this;exact kC h9
theorem bU.change{B:Nat}{M:Nat->Prop}{w0:World}{p0:bq}{w w':World}{p p':bq}{g g':Nat->Value}{st st':Nat->bw}(h:bU B M w0 p0 w p g st)
  (Uj:w'.os=w.os) (Aw:w'.tape=w.tape) (Es:w'.output=w.output) (eZ:w.heap.size<=w'.heap.size)
  (K D:Nat->Prop) (dc:∀ k,¬ K k->st' k=st k) (hu:∀ k,used st k->used st' k) (hg:∀ k,used st k->g' k=g k)
  (oo:∀ β,β<w.heap.size->¬ D β->w'.heap[β]? = w.heap[β]? /\ p' β=p β)
  (hD:∀ β,D β->β<B->M β/\p' β=p β)
  (sF:∀ β,p β<=p' β) (hcell:∀ β i,i<p β->w'.cell? ⟨β,i,none⟩=w.cell? ⟨β,i,none⟩)
  (Gt:∀ β,w'.heap.size<=β->p' β=0)
  (W0:∀ k β,¬ K k->(st k).live->bH (g k)=Zz β->¬ D β)
  (hK:∀ k,K k->mg w' p' g' (used st') B M k (st' k))
  (SF:∀ k k' β,K k->k'≠k->(st' k).live->(st' k').live->bH (g' k)=Zz β->bH (g' k')≠Zz β) :
  bU B M w0 p0 w' p' g' st'/\cG w p g (used st) w' p' g' (used st'):=by
 have hm:cG w p g (used st) w' p' g' (used st'):=⟨sF,hcell,hg,hu⟩;refine⟨⟨Uj.trans h.os,Aw.trans h.tape,Es.trans h.output,Nat.le_trans h.size eZ,fun β hβ hM=> ?_,fun k=> ?_,fun k k' β gA hl rp hv=> ?_,Gt,fun β hβ=> ?_⟩,hm⟩
 ·have hnD:¬ D β:=fun hd=>hM (hD β hd hβ).1;exact(oo β (Zf hβ h.size) hnD).1.trans (h.old β hβ hM)
 ·by_cases hk:K k
  ·exact hK k hk
  ·have hs:=dc k hk;rw[hs];by_cases hl:(st k).live
   ·exact(h.l_ k).ij hm (nV hl) fun β hv=>oo β ((h.l_ k).uc hl hv) (W0 k β hk hl hv)
   ·cases hb:st k<;>first | trivial | (rw[hb] at hl;exact absurd trivial hl)
 ·by_cases hk:K k
  ·exact SF k k' β hk (Ne.symm gA) hl rp hv
  ·by_cases rn:K k'
   ·intro Ax;exact SF k' k β rn gA rp hl Ax hv
   ·rw[dc k hk] at hl;rw[dc k' rn] at rp;rw[hg k (nV hl)] at hv;rw[hg k' (nV rp)];exact h.rI k k' β gA hl rp hv
 ·by_cases hd:D β
  ·exact(hD β hd hβ).2.trans (h.Mk β hβ)
  ·exact(oo β (Zf hβ h.size) hd).2.trans (h.Mk β hβ)
section
variable {B:Nat} {M:Nat->Prop} {w0:World} {p0:bq} {w w':World} {p p':bq} {g:Nat->Value} {st:Nat->bw}
theorem oL{t:Nat}{b:bw}(hb:b ≠ .free){k:Nat}(h:used st k):used (cu st t b) k:=by
 by_cases e:k=t
 ·subst e;unfold used;rw[aQ];exact hb
 ·unfold used;rw[bP _ _ e];exact h
theorem bU.add(h:bU B M w0 p0 w p g st){t:Nat}{b:bw}{v:Value}(ht:st t = .free)(hb:b ≠ .free)
  (Uj:w'.os=w.os) (Aw:w'.tape=w.tape) (Es:w'.output=w.output) (eZ:w.heap.size<=w'.heap.size)
  (oo:∀ β,β<w.heap.size->w'.heap[β]? = w.heap[β]? /\ p' β=p β) (sF:∀ β,p β<=p' β) (Gt:∀ β,w'.heap.size<=β->p' β=0)
  (hv:∀ β,bH v=Zz β->w.heap.size<=β)
  (hB:cG w p g (used st) w' p' (cu g t v) (used (cu st t b))->mg w' p' (cu g t v) (used (cu st t b)) B M t b) :
  bU B M w0 p0 w' p' (cu g t v) (cu st t b)/\cG w p g (used st) w' p' (cu g t v) (used (cu st t b)):=by
 have hu:∀ k,used st k->used (cu st t b) k:=fun k hk=>oL hb hk;have hg:∀ k,used st k->cu g t v k=g k:=fun k hk=>bP _ _ (fun e=>by subst e;exact hk ht);have hcell:∀ β i,i<p β->w'.cell? ⟨β,i,none⟩=w.cell? ⟨β,i,none⟩:=fun β i hi=>by
  rcases Nat.lt_or_ge β w.heap.size with fz | Ap
  ·exact nU (oo β fz).1 i
  ·rw[h.lT β Ap] at hi;omega
 refine h.change Uj Aw Es eZ (fun k=>k=t) (fun _=>False) (fun k hk=>bP _ _ hk) hu hg (fun β hβ _=>oo β hβ) (fun _ hd=>hd.elim) sF hcell Gt (fun _ _ _ _ _ hd=>hd.elim) ?_ ?_
 ·rintro k rfl;rw[aQ];exact hB ⟨sF,hcell,hg,hu⟩
 ·rintro k k' β rfl gA _ rp Kx mW;rw[aQ] at Kx;rw[bP _ _ gA] at rp mW;have h1:=hv β Kx;have h2:=(h.l_ k').uc rp mW;omega
theorem bU.modify(h:bU B M w0 p0 w p g st){k:Nat}{b:bw}{β₀:Nat}(hk:(st k).live)(hb:b.live)(hβ:bH (g k)=Zz β₀)
  (Uj:w'.os=w.os) (Aw:w'.tape=w.tape) (Es:w'.output=w.output) (eZ:w'.heap.size=w.heap.size)
  (oo:∀ β,β≠β₀->w'.heap[β]? = w.heap[β]? /\ p' β=p β) (hB0:β₀<B->M β₀/\p' β₀=p β₀)
  (sF:p β₀<=p' β₀) (hcell:∀ i,i<p β₀->w'.cell? ⟨β₀,i,none⟩=w.cell? ⟨β₀,i,none⟩)
  (hB:cG w p g (used st) w' p' g (used (cu st k b))->mg w' p' g (used (cu st k b)) B M k b) :
  bU B M w0 p0 w' p' g (cu st k b)/\cG w p g (used st) w' p' g (used (cu st k b)):=by
 have LA:b ≠ .free:=fun e=>by rw[e] at hb;exact hb
 have hu:∀ j,used st j->used (cu st k b) j:=fun j hj=>oL LA hj;have fz:β₀<w.heap.size:=(h.l_ k).uc hk hβ;have Ol:∀ β,p β<=p' β:=fun β=>by
  by_cases e:β=β₀
  ·subst e;exact sF
  ·rw[(oo β e).2];exact Zd _
 have N8:∀ β i,i<p β->w'.cell? ⟨β,i,none⟩=w.cell? ⟨β,i,none⟩:=fun β i hi=>by
  by_cases e:β=β₀
  ·subst e;exact hcell i hi
  ·exact nU (oo β e).1 i
 refine h.change Uj Aw Es (by omega) (fun j=>j=k) (fun β=>β=β₀) (fun j hj=>bP _ _ hj) hu (fun _ _=>rfl) (fun β _ hd=>oo β hd) (fun β hd hlB=>by subst hd;exact hB0 hlB) Ol N8 ?_ ?_ ?_ ?_
 ·intro β hβ;rw[(oo β (by omega)).2];exact h.lT β (by omega)
 ·rintro j β hj hl hv rfl;exact h.rI j k β hj hl hk hv hβ
 ·rintro j rfl;rw[aQ];exact hB ⟨Ol,N8,fun _ _=>rfl,hu⟩
 ·rintro j j' β rfl gA _ rp Kx mW;rw[bP _ _ gA] at rp;exact h.rI j j' β (Ne.symm gA) hk rp Kx mW
end
end Go.Abs
/- The types' facts; constants; operations that touch no memory. -/
namespace Go.Abs
theorem bg{P:Program}{t:Nat}{i:TI}(h:ez P t=Zz i):∃ info z,P.info? t=Zz info/\info.size=i.size/\info.bytes=i.bytes/\info.zero=Zz z/\nM z.cells.toList=Zz i.zero/\i.zero.length=i.size/\i.gy.length=i.size/\gm P t=Zz i.kind/\Kg P 20 t=Zz i.gy/\i.VK=(if P.eqGuardType P.depth t=Zv then(ur P 20 t).getD [] else[]):=by
 unfold ez at h;split at h
 ·rename_i info k gy h1 h2 h3;cases hz:info.zero with
  | none=>simp[hz] at h
  | some z =>
   cases hc:nM z.cells.toList with
   | none=>simp[hz,hc] at h
   | some cs =>
    simp only[hz,Option.bind_some,hc] at h;split at h
    ·rename_i hl;simp at hl;cases h;exact⟨info,z,h1,rfl,rfl,hz,hc,hl.1.1,hl.1.2,h2,h3,rfl⟩
    ·cases h
 ·cases h
theorem Md{P:Program}{t:Nat}{i:TI}(h:ez P t=Zz i):∃ info,P.info? t=Zz info/\Fp info.zero i.kind=Zn:=by
 unfold ez at h;split at h
 ·rename_i info k gy h1 h2 h3;split at h
  ·split at h
   ·rename_i hl;simp only[Zp] at hl;cases h;exact⟨info,h1,hl.2⟩
   ·cases h
  ·cases h
 ·cases h
theorem dR{P:Program}{t e:Nat}{b:Bool}(h:gm P t=Zz (.slice e b)):P.underlying t=Zz (.slice e)/\b=Cm P e:=by grind [gm]
theorem pZ{P:Program}{t n e:Nat}{b:Bool}(h:gm P t=Zz (.cM n e b)):P.underlying t=Zz (.array n e)/\b=Cm P e:=by grind [gm]
theorem OE{P:Program}{t e:Nat}(h:gm P t=Zz (.ptr e)):P.underlying t=Zz (.pointer e):=by grind [gm]
theorem lP{P:Program}{t:Nat}(h:gm P t=Zz .str):P.underlying t=Zz .string:=by grind [gm]
theorem CZ{P:Program}{t:Nat}(h:gm P t=Zz .bool):P.underlying t=Zz .bool:=by grind [gm]
theorem KF{P:Program}{t:Nat}(h:gm P t=Zz .u8):P.underlying t=Zz (.int .u8):=by grind [gm]
theorem AJ{P:Program}{t:Nat}{k:IntKind}(h:gm P t=Zz (.int k)):P.underlying t=Zz (.int k)/\k ≠ .u8:=by grind [gm]
theorem nc {P : Program} {t : Nat} {fs : List (Nat × Nat)} (h : gm P t = Zz (.struct fs)) : ∃ fields, P.underlying t = Zz (.struct fields) ∧ (∀ f ∈ fields.toList, sized P f.type = Zn ∧ f.name ≠ "_") ∧ fs = fields.toList.map fun f => (f.offset, f.type) := by grind [gm]
theorem wK{P:Program}{t k e:Nat}(h:gm P t=Zz (.map k e)):P.underlying t=Zz (.map k e):=by grind [gm]
theorem Jc{P:Program}{t:Nat}(h:gm P t=Zz .other):∃ a b c,P.underlying t=Zz (.func a b c):=by grind [gm]
theorem ii{P:Program}{e:Nat}(h:Cm P e=Zn):P.underlying e=Zz (.int .u8)/\∃ info,P.info? e=Zz info/\info.size=1/\info.bytes=1/\info.zero=Zz (.int .u8 0):=by
 unfold Cm at h;split at h
 ·rename_i i h1 h2;simp only[Zp,Qb0] at h;refine⟨h1,i,h2,h.1.1,h.1.2,?_⟩;have h3:=h.2;split at h3
  ·assumption
  ·cases h3
 ·cases h
theorem nY{P:Program}{t:Nat}{k:TK}(h:gm P t=Zz k)(w:World):(isAgg t).run P w = .ok (cS k) w:=by
 unfold isAgg;cases k with
 | int k=>simp[run_underlying (AJ h).1,cS]
 | u8=>simp[run_underlying (KF h),cS]
 | bool=>simp[run_underlying (CZ h),cS]
 | str=>simp[run_underlying (lP h),cS]
 | slice e b=>simp[run_underlying (dR h).1,cS]
 | cM n e b=>simp[run_underlying (pZ h).1,cS]
 | struct fs=>obtain⟨fields,hu,_⟩:=nc h;simp[run_underlying hu,cS]
 | ptr e=>simp[run_underlying (OE h),cS]
 | map a b=>simp[run_underlying (wK h),cS]
 | other=>obtain⟨a,b,c,hu⟩:=Jc h;simp[run_underlying hu,cS]
theorem run_sizeOf{P:Program}{t:Nat}{info:TypeInfo}(h:P.info? t=Zz info)(w:World):(sizeOf t).run P w = .ok info.size w:=by
 simp[sizeOf,typeInfo,h]
theorem h_{P:Program}{t:Nat}{info:TypeInfo}{z:Value}(h:P.info? t=Zz info)(hz:info.zero=Zz z)(w:World):(zeroValue t).run P w = .ok z w:=by
 simp[zeroValue,typeInfo,h,hz]
theorem OY{k:IntKind}(hk:k ≠ .u8)(n:Int):ni k n = .int k n:=by cases k<;>first | rfl | exact absurd rfl hk
theorem gn{w:World}{p:bq}{k:IntKind}{n:Int}(h:k = .u8->0<=n/\n<256):bM w p (.int k n) (ni k n):=by
 by_cases hk:k = .u8
 ·subst hk;obtain⟨h0,h1⟩:=h rfl;have e:(Value.int .u8 n)=jk (UInt8.ofNat n.toNat):=by
   unfold jk;congr 1;rw[UInt8.toNat_ofNat'];omega
  rw[e];exact .u8
 ·rw[OY hk];exact .int hk
theorem wrap_u8(n:Int):0<=IntKind.u8.wrap n/\IntKind.u8.wrap n<256:=by
 unfold IntKind.wrap;simp[IntKind.bits,IntKind.signed];omega
theorem A4{w:World}{p:bq}{v:Value}{a:AV}(h:EO v=Zz a):bM w p v a:=by
 unfold EO at h;split at h
 ·cases h;exact .bool
 ·rename_i k n;split at h
  ·cases hc:(Zw (0<=n)&&Zw (n<256)) with
   | false=>simp[hc] at h
   | true =>
    rw[hc] at h;have h':AV.u8 (UInt8.ofNat n.toNat)=a:=by simpa using h
    subst h';simp at hc;exact gn (k := .u8) fun _=>hc
  ·rename_i hk;cases h;exact .int fun e=>hk e
 ·cases h;exact .str rfl
 ·cases h;exact .cY
 ·cases h;exact .mc
 ·cases h;exact .EK
 ·cases h;exact .wT
 ·cases h
theorem fF{w:World}{p:bq}:∀ {vs:List Value} {as:List AV},nM vs=Zz as->aV (bM w p) vs as
 | [],as,h=>by simp[nM] at h;subst h;exact .nil
 | v::r,as,h=>by
  simp only[nM] at h;split at h
  ·rename_i a l h1 h2;cases h;exact .cons (A4 h1) (fF h2)
  ·cases h
section
variable {w:World} {p:bq} {g:Nat->Value} {u:Nat->Prop}
theorem Mi{v:Value}{a:AV}(h:O5 v=Zz a):bj w p g u v a:=by
 unfold O5 at h;split at h
 ·rename_i cs;cases hc:nM cs.toList with
  | none=>simp[hc] at h
  | some l =>
   simp[hc] at h;subst h;exact .inr (.inl (.inr ⟨cs,l,rfl,rfl,(fF hc).imp fun _ _ => .kZ⟩))
 ·exact .inr (.inl (.inl (.kZ (A4 h))))
theorem bM.rY{v:Value}{a:AV}(h:bM w p v a):v.cells = #[v]/\v.oneCell'=Zn/\a.cells=[a]/\a.dz=Zn:=by
 cases h<;>simp[Value.cells,Value.oneCell',AV.cells,AV.dz,jk]
theorem cw.rY{v:Value}{a:AV}(h:cw w p g u v a):v.cells = #[v]/\v.oneCell'=Zn/\a.cells=[a]/\a.dz=Zn:=by
 cases h with
 | kZ h=>exact h.rY
 | ptr=>simp[Value.cells,Value.oneCell',AV.cells,AV.dz]
 | ju=>simp[Value.cells,Value.oneCell',AV.cells,AV.dz]
 | row hu hs=>obtain⟨a,l,c,e⟩:=hs;rw[e];simp[Value.cells,Value.oneCell',AV.cells,AV.dz]
 | mp=>simp[Value.cells,Value.oneCell',AV.cells,AV.dz]
 | bE hu hs=>obtain⟨a,l,c,e⟩:=hs;rw[e];simp[Value.cells,Value.oneCell',AV.cells,AV.dz]
 | bC=>simp[Value.cells,Value.oneCell',AV.cells,AV.dz]
 | qd=>simp[Value.cells,Value.oneCell',AV.cells,AV.dz]
 | pre=>simp[Value.cells,Value.oneCell',AV.cells,AV.dz]
 | Fu=>simp[Value.cells,Value.oneCell',AV.cells,AV.dz]
 | BV=>simp[Value.cells,Value.oneCell',AV.cells,AV.dz]
theorem bj.cells{v:Value}{a:AV}(h:bj w p g u v a)(hc:a.cells.all AV.dz=Zn):aV (cw w p g u) v.cells.toList a.cells:=by
 rcases h with rfl | (h | ⟨cM,cs,rfl,rfl,h⟩) | ⟨cM,cs,rfl,rfl,h⟩
 ·simp[AV.cells,AV.dz] at hc
 ·rw[h.rY.1,h.rY.2.2.1];exact .cons h .nil
 ·exact h
 ·simp[AV.cells,AV.dz] at hc
theorem aV.one{vs:List Value}{cs:List AV}(h:aV (cw w p g u) vs cs):∀ v∈vs,v.oneCell'=Zn:=by
 intro v hv;obtain⟨i,hi⟩:=List.getElem?_of_mem hv;have fz:i<cs.length:=by rw[<-h.len];exact(Zq.1 hi).1
 exact(h.each i v _ hi (Zb fz)).rY.2.1
theorem aV.UO{vs:List Value}{cs:List AV}(h:aV (bM w p) vs cs):∀ v∈vs,v.oneCell'=Zn:=by
 intro v hv;obtain⟨i,hi⟩:=List.getElem?_of_mem hv;have fz:i<cs.length:=by rw[<-h.len];exact(Zq.1 hi).1
 exact(h.each i v _ hi (Zb fz)).rY.2.1
theorem bj.int{v:Value}{k:IntKind}{n:Int}(h:bj w p g u v (.int k n)):v = .int k n/\k ≠ .u8:=by
 rcases h with h | (h | ⟨cM,cs,_,h,_⟩) | ⟨cM,cs,_,h,_⟩<;>first | cases h
 rename_i h;cases h;exact⟨rfl,by assumption⟩
theorem bj.u8{v:Value}{b:UInt8}(h:bj w p g u v (.u8 b)):v=jk b:=by
 rcases h with h | (h | ⟨cM,cs,_,h,_⟩) | ⟨cM,cs,_,h,_⟩<;>first | cases h
 rename_i h;cases h;rfl
theorem bj.bool{v:Value}{b:Bool}(h:bj w p g u v (.bool b)):v = .bool b:=by
 rcases h with h | (h | ⟨cM,cs,_,h,_⟩) | ⟨cM,cs,_,h,_⟩<;>first | cases h
 rename_i h;cases h;rfl
theorem bj.str{v:Value}{l:List UInt8}(h:bj w p g u v (.str l)):∃ s:ByteArray,v = .string s/\s.data.toList=l:=by
 rcases h with h | (h | ⟨cM,cs,_,h,_⟩) | ⟨cM,cs,_,h,_⟩<;>first | cases h
 rename_i h;cases h;exact⟨_,rfl,by assumption⟩
theorem bj.bs{v:Value}{l:List UInt8}(h:bj w p g u v (.bs l)):bM w p v (.bs l):=by
 rcases h with h | (h | ⟨cM,cs,_,h,_⟩) | ⟨cM,cs,_,h,_⟩<;>first | cases h
 assumption
theorem bj.sl{v:Value}{z:Nat}{l:List AV}(h:bj w p g u v (.sl z l)):bM w p v (.sl z l):=by
 rcases h with h | (h | ⟨cM,cs,_,h,_⟩) | ⟨cM,cs,_,h,_⟩<;>first | cases h
 assumption
theorem bj.cY{v:Value}(h:bj w p g u v .cY):∃ a,v = .slice a 0 0:=by
 rcases h with h | (h | ⟨cM,cs,_,h,_⟩) | ⟨cM,cs,_,h,_⟩<;>first | cases h
 rename_i h;cases h;exact⟨_,rfl⟩
theorem bj.row{v:Value}{k:Nat}(h:bj w p g u v (.row k)):u k/\v=g k/\∃ a l c,g k = .slice a l c:=by
 rcases h with h | (h | ⟨cM,cs,_,h,_⟩) | ⟨cM,cs,_,h,_⟩<;>first | cases h
 ·rename_i h;cases h
 ·exact⟨by assumption,rfl,by assumption⟩
theorem bj.ptr{v:Value}{k off:Nat}(h:bj w p g u v (.ptr k off)):u k/\∃ β,g k = .pointer (Zz ⟨β,0,none⟩)/\v = .pointer (Zz ⟨β,off,none⟩):=by
 rcases h with h | (h | ⟨cM,cs,_,h,_⟩) | ⟨cM,cs,_,h,_⟩<;>first | cases h
 ·rename_i h;cases h
 ·exact⟨by assumption,_,by assumption,rfl⟩
theorem bj.ju{v:Value}{k i sz off:Nat}(h:bj w p g u v (.ju k i sz off)):u k/\∃ β,bH (g k)=Zz β/\v = .pointer (Zz ⟨β,i*sz+off,none⟩):=by
 rcases h with h | (h | ⟨cM,cs,_,h,_⟩) | ⟨cM,cs,_,h,_⟩<;>first | cases h
 ·rename_i h;cases h
 ·exact⟨by assumption,_,by assumption,rfl⟩
theorem bj.bE{v:Value}{k e sz:Nat}(h:bj w p g u v (.bE k e sz)):u k/\v=g k/\∃ a l c,g k = .slice a l c:=by
 rcases h with h | (h | ⟨cM,cs,_,h,_⟩) | ⟨cM,cs,_,h,_⟩<;>first | cases h
 ·rename_i h;cases h
 ·exact⟨by assumption,rfl,by assumption⟩
theorem bj.mp{v:Value}{k:Nat}(h:bj w p g u v (.mp k)):u k/\∃ β,g k = .map (Zz β)/\v = .map (Zz β):=by
 rcases h with h | (h | ⟨cM,cs,_,h,_⟩) | ⟨cM,cs,_,h,_⟩<;>first | cases h
 ·rename_i h;cases h
 ·exact⟨by assumption,_,by assumption,rfl⟩
theorem bj.jz{v:Value}{cs:List AV}(h:bj w p g u v (.jz cs)):bM w p v (.jz cs):=by
 rcases h with h | (h | ⟨cM,cs,_,h,_⟩) | ⟨cM,cs,_,h,_⟩<;>first | cases h
 assumption
theorem bj.qd{v:Value}{k off:Nat}(h:bj w p g u v (.qd k off)):u k/\∃ β j b,g k = .pointer (Zz ⟨b,0,none⟩)/\v = .pointer (Zz ⟨β,j,none⟩)/\w.cell? ⟨β,j,none⟩=Zz (.pointer (Zz ⟨b,off,none⟩)):=by
 rcases h with h | (h | ⟨cM,cs,_,h,_⟩) | ⟨cM,cs,_,h,_⟩<;>first | cases h
 ·rename_i h;cases h
 ·rename_i hp hu hg hc;exact⟨by assumption,_,_,_,by assumption,rfl,by assumption⟩
theorem bj.bC{v:Value}{k:Nat}{gT:List Nat}(h:bj w p g u v (.bC k gT)):u k/\∃ β b cap,g k = .pointer (Zz ⟨b,0,none⟩)/\v = .slice (Zz ⟨β,0,none⟩) gT.length cap/\∀ (j off:Nat),gT[j]? = Zz off->j<p β/\w.cell? ⟨β,j,none⟩=Zz (.pointer (Zz ⟨b,off,none⟩)):=by
 rcases h with h | (h | ⟨cM,cs,_,h,_⟩) | ⟨cM,cs,_,h,_⟩<;>first | cases h
 ·rename_i h;cases h
 ·exact⟨by assumption,_,_,_,by assumption,rfl,by assumption⟩
theorem bj.fn{v:Value}{f:Nat}(h:bj w p g u v (.fn f)):v = .func (.func f) #[] #[]:=by
 rcases h with h | (h | ⟨cM,cs,_,h,_⟩) | ⟨cM,cs,_,h,_⟩<;>first | cases h
 rename_i h;cases h;rfl
theorem bj.BV{v:Value}{f:Nat}{fs cs:List (Nat×Nat)}(h:bj w p g u v (.BV f fs cs)):∃ vs us:Array Value,v = .func (.func f) vs us/\aV (bj w p g u) vs.toList (kP fs)/\aV (bj w p g u) us.toList (kP cs):=by
 have key:∀ {vs:Array Value} {fs:List (Nat×Nat)},vs.size=fs.length->(∀ (j k off:Nat),fs[j]? = Zz (k,off)->u k/\∃ β,g k = .pointer (Zz ⟨β,0,none⟩)/\vs[j]? = Zz (.pointer (Zz ⟨β,off,none⟩)))->aV (bj w p g u) vs.toList (kP fs):=by
  intro vs fs h1 h2;refine⟨by simp[kP,h1],fun i v c hv hc=> ?_⟩;simp only[kP,List.getElem?_map,Option.map_eq_some_iff] at hc;obtain⟨⟨k,off⟩,hj,rfl⟩:=hc;obtain⟨hu,β,hg,hx⟩:=h2 i k off hj;have:v = .pointer (Zz ⟨β,off,none⟩):=by
   have Ax:vs[i]? = Zz v:=by simpa using hv
   rw[hx] at Ax;cases Ax;rfl
  subst this;exact .inr (.inl (.inl (.ptr hu hg)))
 rcases h with h | (h | ⟨cM,cs,_,h,_⟩) | ⟨cM,cs,_,h,_⟩
 ·cases h
 ·cases h with
  | kZ h=>cases h
  | BV h1 h2 hf hc=>exact⟨_,_,rfl,key h1 hf,key h2 hc⟩
 ·cases h
 ·cases h
theorem bj.pre{v:Value}{k n:Nat}(h:bj w p g u v (.pre k n)):u k/\∃ β l cap,g k = .slice (Zz ⟨β,0,none⟩) l cap/\n<=l/\v = .slice (Zz ⟨β,0,none⟩) n cap:=by
 rcases h with h | (h | ⟨cM,cs,_,h,_⟩) | ⟨cM,cs,_,h,_⟩<;>first | cases h
 ·rename_i h;cases h
 ·exact⟨by assumption,_,_,_,by assumption,by assumption,rfl⟩
theorem bj.Fu{v:Value}{k m:Nat}(h:bj w p g u v (.Fu k m)):u k/\∃ β l cap a,g k = .slice (Zz ⟨β,0,none⟩) l cap/\m<=l/\(m=l\/a=Zz ⟨β,m,none⟩)/\v = .slice a (l-m) (cap-m):=by
 rcases h with h | (h | ⟨cM,cs,_,h,_⟩) | ⟨cM,cs,_,h,_⟩<;>first | cases h
 ·rename_i h;cases h
 ·exact⟨by assumption,_,_,_,_,by assumption,by assumption,by assumption,rfl⟩
theorem bj.agg{v:Value}{cs:List AV}(h:bj w p g u v (.agg cs)):∃ cM,v = .agg cM/\aV (cw w p g u) cM.toList cs:=by
 rcases h with h | (h | ⟨cM,iN,rfl,h,hc⟩) | ⟨cM,cs,_,h,_⟩
 ·cases h
 ·cases h with | kZ h=>cases h
 ·cases h;exact⟨cM,rfl,hc⟩
 ·cases h
theorem bj.aS{v:Value}{as:List AV}(h:bj w p g u v (.aS as)):∃ cM,v = .tuple cM/\aV (vH w p g u) cM.toList as:=by
 rcases h with h | (h | ⟨cM,iN,rfl,h,hc⟩) | ⟨cM,as',rfl,h,hc⟩
 ·cases h
 ·cases h with | kZ h=>cases h
 ·cases h
 ·cases h;exact⟨cM,rfl,hc⟩
theorem bM.v{v:Value}{a:AV}(h:bM w p v a):bj w p g u v a := .inr (.inl (.inl (.kZ h)))
theorem cw.v{v:Value}{a:AV}(h:cw w p g u v a):bj w p g u v a := .inr (.inl (.inl h))
end
end Go.Abs
/- Operations on memory: new blocks, loads, stores. -/
namespace Go.Abs
section
variable {P:Program} {B:Nat} {M:Nat->Prop} {w0:World} {p0:bq} {w:World} {p:bq} {g:Nat->Value}
def Good(B:Nat)(M:Nat->Prop)(w0:World)(p0:bq)(w:World)(p:bq)(g:Nat->Value)(st:Nat->bw)(v:AV)(st':Nat->bw)(r:Result Value):Prop :=
 ∃ v' w' p' g',r = .ok v' w'/\bU B M w0 p0 w' p' g' st'/\cG w p g (used st) w' p' g' (used st')/\bj w' p' g' (used st') v' v
theorem Good.same{st:Nat->bw}{v:AV}{v':Value}{r:Result Value}(h:bU B M w0 p0 w p g st)(hr:r = .ok v' w)(hv:bj w p g (used st) v' v):Good B M w0 p0 w p g st v st r :=
 ⟨v',w,p,g,hr,h,cG.refl,hv⟩
theorem dw(w:World)(o:Obj){β:Nat}(h:β<w.heap.size):(w.alloc o).heap[β]? = w.heap[β]? := Go.RowKit.Below.heap_alloc w o β h
theorem eg(w:World)(o:Obj):(w.alloc o).heap[w.heap.size]? = Zz o:=heap_alloc_new w o
theorem bU.kN{st:Nat->bw}(h:bU B M w0 p0 w p g st)(o:Obj):∀ β,(w.alloc o).heap.size<=β->p β=0:=fun β hβ=>h.lT β (by simp at hβ;omega)
theorem uw{st:Nat->bw}{t:Nat}(h:bU B M w0 p0 w p g st)(ht:st t = .free)(c:Array Value)(e:TypeId){cs:List AV}(hc:aV (cw w p g (used st)) c.toList cs) :
  Good B M w0 p0 w p g st (.ptr t 0) (cu st t (.cells cs)) (.ok (.pointer (Zz ⟨w.heap.size,0,none⟩)) (w.alloc (.cells c e))):=by
 obtain⟨hs,hm⟩:=h.add (w':=w.alloc (.cells c e)) (p':=p) (t:=t) (b := .cells cs) (v := .pointer (Zz ⟨w.heap.size,0,none⟩)) ht (by simp) rfl rfl rfl (by simp)
  (fun β hβ=>⟨dw w _ hβ,rfl⟩) (fun _=>Zd _) (h.kN _) (fun β hβ=>by simp[bH] at hβ;omega)
  (fun hm=>⟨w.heap.size,c,e,by rw[aQ],.inr h.size,eg w _,hc.imp fun _ _=>hm.Ct,h.lT _ (Zd _)⟩)
 refine⟨_,_,p,_,rfl,hs,hm,cw.v (.ptr ?_ (by rw[aQ]))⟩;unfold used;rw[aQ];simp
theorem Ej{st:Nat->bw}{t:Nat}(h:bU B M w0 p0 w p g st)(ht:st t = .free)(c:Array Value)(e:TypeId){l:List UInt8}(hc:c.toList=l.map jk) :
  Good B M w0 p0 w p g st (.ptr t 0) (cu st t (.iz l Zv)) (.ok (.pointer (Zz ⟨w.heap.size,0,none⟩)) (w.alloc (.cells c e))):=by
 have hp:p w.heap.size=0:=h.lT _ (Zd _);obtain⟨hs,hm⟩:=h.add (w':=w.alloc (.cells c e)) (p':=p) (t:=t) (b := .iz l Zv) (v := .pointer (Zz ⟨w.heap.size,0,none⟩)) ht (by simp) rfl rfl rfl (by simp)
  (fun β hβ=>⟨dw w _ hβ,rfl⟩) (fun _=>Zd _) (h.kN _) (fun β hβ=>by simp[bH] at hβ;omega)
  (fun hm=>⟨w.heap.size,c,e,by rw[aQ],h.size,eg w _,hc,by omega,fun _=>hp⟩)
 refine⟨_,_,p,_,rfl,hs,hm,cw.v (.ptr ?_ (by rw[aQ]))⟩;unfold used;rw[aQ];simp
theorem zJ:∀ {as:List AV} {l:List UInt8},QS as=Zz l->as=l.map .u8
 | [],l,h=>by simp[QS] at h;subst h;rfl
 | a::r,l,h=>by
  cases a<;>simp[QS] at h;obtain⟨l',h',rfl⟩:=h;rw[zJ h'];rfl
theorem vW{R:Value->AV->Prop}(hR:∀ v b,R v (.u8 b)->v=jk b):∀ {vs:List Value} {l:List UInt8},aV R vs (l.map .u8)->vs=l.map jk
 | vs,[],h=>h.jd
 | vs,b::l,h=>by
  obtain⟨v,Q6,rfl,h1,h2⟩:=h.gY;rw[hR v b h1,vW hR h2];rfl
theorem E1{v:Value}{b:UInt8}(h:bM w p v (.u8 b)):v=jk b:=by cases h;rfl
theorem MB{t:Nat}{info:TypeInfo}{z:Value}(hi:P.info? t=Zz info)(hz:info.zero=Zz z) :
  (Instr.alloc t Zn (.tuple #[])).run P w = .ok (.pointer (Zz ⟨w.heap.size,0,none⟩)) (w.alloc (.cells z.cells t)):=by
 unfold Instr.alloc;simp[h_ hi hz,newVar,newRow]
theorem MH{α:Type}{fr:Fr}{e t:Nat}{i:TI}(hi:ez P e=Zz i)(h:bU B M w0 p0 w p g fr.st){k:kH α}{r:α}
  (hk:(match i.kind with | .cM _ _ Zn=>(QS i.zero).bind fun l=>gX fr t (.iz l Zv) (.ptr t 0) k | _=>gX fr t (.cells i.zero) (.ptr t 0) k)=Zz r) :
  ∃ v st' fp,k v st' fp=Zz r/\Good B M w0 p0 w p g fr.st v st' ((Instr.alloc e Zn (.tuple #[])).run P w):=by
 obtain⟨info,z,h1,h2,h3,h4,h5,h6,h7,h8,h9,_⟩:=bg hi;rw[MB h1 h4];have hz:=fF (w:=w) (p:=p) h5;have key:gX fr t (.cells i.zero) (.ptr t 0) k=Zz r->∃ v st' fp,k v st' fp=Zz r/\Good B M w0 p0 w p g fr.st v st' (.ok (.pointer (Zz ⟨w.heap.size,0,none⟩)) (w.alloc (.cells z.cells e))):=by
  intro hk;unfold gX at hk;split at hk
  ·rename_i ht;exact⟨_,_,_,hk,uw h ht _ _ (hz.imp fun _ _ => .kZ)⟩
  ·cases hk
 split at hk
 ·cases hl:QS i.zero with
  | none=>simp[hl] at hk
  | some l =>
   simp only[hl,Option.bind_some,gX] at hk;split at hk
   ·rename_i ht;refine⟨_,_,_,hk,Ej h ht _ _ ?_⟩;rw[zJ hl] at hz;exact vW (fun v b=>E1) hz
   ·cases hk
 ·exact key hk
theorem Sc{α:Type}{fr:Fr}{e t:Nat}{i:TI}{x:Value}{a:AV}(h:bU B M w0 p0 w p g fr.st)(hx:bj w p g (used fr.st) x a){k:kH α}{r:α}
  (hk:(bif a.cells.length==i.size&&a.cells.all AV.dz then gX fr t (.cells a.cells) (.ptr t 0) k else none)=Zz r) :
  ∃ v st' fp,k v st' fp=Zz r/\Good B M w0 p0 w p g fr.st v st' ((Instr.box e x).run P w):=by
 cases hc:(a.cells.length==i.size&&a.cells.all AV.dz) with
 | false=>simp[hc] at hk
 | true =>
  simp only[hc,Qa5,gX] at hk;simp only[Zp] at hc;split at hk
  ·rename_i ht;refine⟨_,_,_,hk,?_⟩;have:(Instr.box e x).run P w = .ok (.pointer (Zz ⟨w.heap.size,0,none⟩)) (w.alloc (.cells x.cells e)):=by
    unfold Instr.box;simp[newVar,newRow]
   rw[this];exact uw h ht _ _ (hx.cells hc.2)
  ·cases hk
theorem dT(β off j:Nat):(⟨β,off,none⟩:Addr).add j=⟨β,off+j,none⟩:=by unfold Addr.add;split<;>simp_all
theorem te{t:Nat}{i:TI}(hi:ez P t=Zz i){β off:Nat}{vs:List Value}(hl:vs.length=i.size\/(cS i.kind=Zv/\0<vs.length))
  (hc:∀ j v,vs[j]? = Zz v->w.cell? ⟨β,off+j,none⟩=Zz v) :
  (loadVar t ⟨β,off,none⟩).run P w = .ok (if cS i.kind then .agg vs.toArray else vs.headD undef) w\/vs=[]:=by
 obtain⟨info,z,h1,h2,h3,h4,h5,h6,h7,h8,h9,_⟩:=bg hi;cases hk:cS i.kind with
 | true =>
  left;have rp:vs.length=i.size:=by rcases hl with hl | hl;exact hl;rw[hk] at hl;cases hl.1
  have Xr:=run_loadCells_list (P:=P) w ⟨β,off,none⟩ vs (fun j v hj=>by rw[dT];exact hc j v hj);rw[rp,<-h2] at Xr;simp[loadVar,nY h8,hk,run_sizeOf h1,Xr]
 | false =>
  cases vs with
  | nil=>exact .inr rfl
  | cons v vs =>
   left;have:=hc 0 v rfl;simp[loadVar,nY h8,hk];rw[show off=off+0 from rfl,this]
def rS(w:World)(p:bq)(g:Nat->Value)(st:Nat->bw)(v:AV)(r:Result Value):Prop:=∃ v',r = .ok v' w/\bj w p g (used st) v' v
theorem rS.same{st:Nat->bw}{v:AV}{v':Value}{r:Result Value}(hr:r = .ok v' w)(hv:bj w p g (used st) v' v):rS w p g st v r:=⟨v',hr,hv⟩
theorem rS.lE{st:Nat->bw}{v:AV}{r:Result Value}(h:bU B M w0 p0 w p g st)(hg:rS w p g st v r):Good B M w0 p0 w p g st v st r:=by
 obtain⟨v',hr,hv⟩:=hg;exact Good.same h hr hv
theorem m4{α:Type}{st:Nat->bw}{t:Nat}{i:TI}(hi:ez P t=Zz i)(h:bU B M w0 p0 w p g st){β off:Nat}{vs:List Value}{cs:List AV}(hcs:aV (cw w p g (used st)) vs cs)
  (hc:∀ j v,vs[j]? = Zz v->w.cell? ⟨β,off+j,none⟩=Zz v) {k:AV->Option α} {r:α} (hk:loadCells i cs k=Zz r) :
  ∃ v,k v=Zz r/\rS w p g st v ((loadVar t ⟨β,off,none⟩).run P w):=by
 unfold loadCells at hk;cases hb:Zh i.size cs.length with
 | false=>simp[hb] at hk
 | true =>
  simp only[hb,Qa5] at hk;have hle:i.size<=cs.length:=Zu hb;split at hk
  ·rename_i rJ;refine⟨_,hk,?_⟩;have h1:=te (P:=P) (w:=w) hi (β:=β) (off:=off) (vs:=vs.take i.size) (.inl (by simp[hcs.len];omega)) (fun j v hj=>by
    rw[Zj] at hj;split at hj
    ·exact hc j v hj
    ·cases hj)
   have TS:(loadVar t ⟨β,off,none⟩).run P w = .ok (.agg (vs.take i.size).toArray) w:=by
    rcases h1 with h1 | h1
    ·rw[h1,rJ];rfl
    ·obtain⟨info,z,a1,a2,a3,a4,a5,a6,a7,a8,a9,_⟩:=bg hi;have hz:i.size=0:=by
      have:=Qb3 List.length h1;rw[List.length_take,hcs.len,List.length_nil] at this;omega
     have Xr:=run_loadCells_list (P:=P) w ⟨β,off,none⟩ [] (fun j v hj=>by simp at hj);simp only[List.length_nil] at Xr;rw[hz] at a2;simp[loadVar,nY a8,rJ,run_sizeOf a1,a2,Xr,hz]
   exact rS.same TS (.inr (.inl (.inr ⟨_,_,rfl,rfl,by simpa using hcs.take i.size⟩)))
  ·rename_i rJ;cases cs with
   | nil=>simp at hk
   | cons c cs =>
    obtain⟨v,Q6,rfl,hv,_⟩:=hcs.gY;refine⟨_,hk,?_⟩;have h1:=te (P:=P) (w:=w) hi (β:=β) (off:=off) (vs:=v::Q6) (.inr ⟨rJ,by simp⟩) hc;rcases h1 with h1 | h1
    ·rw[rJ] at h1;exact rS.same h1 (cw.v hv)
    ·cases h1
theorem FN{R:Value->AV->Prop}{vs:List Value}{els:List AV}{sz:Nat}(h:aV R vs (els.flatMap AV.cells))(eZ:∀ x∈els,x.cells.length=sz){j:Nat}{x:AV}(hj:els[j]? = Zz x)(off:Nat) :
  aV R ((vs.drop (j*sz+off)).take (sz-off)) (x.cells.drop off):=by
 have hx:=eZ x (List.mem_of_getElem? hj);have LK:j<els.length:=(Zq.1 hj).1;have hl:=h.len;rw[iE eZ] at hl;have Ap:(j+1)*sz<=els.length*sz:=Zm sz LK;rw[Yy] at Ap;refine⟨?_,fun i v c hv hc=> ?_⟩
 ·rw[List.length_take,List.length_drop,List.length_drop,hx];omega
 ·rw[Zj] at hv;split at hv
  ·rw[Yx] at hv hc;have:=su eZ hj hc;rw[Nat.add_assoc] at hv;exact h.each _ v c hv this
  ·cases hv
theorem tj{α:Type}{E:Env}(eG:∀ t i,E.ty t=Zz i->ez P t=Zz i){fr:Fr}{t:Nat}{i:TI}(hi:ez P t=Zz i)(h:bU B M w0 p0 w p g fr.st){x:Value}{a:AV}(hx:bj w p g (used fr.st) x a){k:kH α}{r:α}(hk:jt E fr i a k=Zz r) :
  ∃ v fp,k v fr.st fp=Zz r/\rS w p g fr.st v ((Instr.loadAt t x).run P w):=by
 unfold jt at hk;split at hk
 ·rename_i b off;obtain⟨hu,β,hg,rfl⟩:=hx.ptr;have hb:=h.l_ b;split at hk
  ·rename_i cs dc;rw[dc] at hb;obtain⟨β',c,e,h1,h2,h3,h4,h5⟩:=hb;have:β'=β:=by rw[h1] at hg;cases hg;rfl
   subst this;obtain⟨v,rn,QZ⟩:=m4 (P:=P) hi h (β:=β') (off:=off) (h4.drop off) (fun j v hj=>by
    rw[eN h3];simpa using hj) hk
   exact⟨v,_,rn,by simpa [Instr.loadAt,Instr.sureAddr] using QZ⟩
  ·cases hk
 ·rename_i cs;have hr:=hx.jz;cases hr with
  | jz vs hcell lH =>
   rename_i β off;obtain⟨v,rn,QZ⟩:=m4 (P:=P) hi h (β:=β) (off:=off) (vs:=(List.range cs.length).map vs) (cs:=cs) ⟨by simp,fun j v c hv hc=>by
     have hj:j<cs.length:=(Zq.1 hc).1;simp[hj] at hv;subst hv;exact .kZ (lH j c hc)⟩ (fun j v hj=>by
     have Iw:j<cs.length:=by have:=(Zq.1 hj).1;simpa using this
     simp[Iw] at hj;subst hj;exact(hcell j _ (Zb Iw)).2) hk
   exact⟨v,_,rn,by simpa [Instr.loadAt,Instr.sureAddr] using QZ⟩
 ·rename_i b off;obtain⟨hu,β,j,b',hg,rfl,hc⟩:=hx.qd;split at hk
  ·rename_i e eC;obtain⟨eZ,bc⟩:=aH hk;have XQ:=Zx eZ;refine⟨_,_,bc,?_⟩;have rJ:cS i.kind=Zv:=by rw[eC];rfl
   have h1:=te (P:=P) (w:=w) hi (β:=β) (off:=j) (vs:=[.pointer (Zz ⟨b',off,none⟩)]) (.inr ⟨rJ,by simp⟩) (fun q v hq=>by
    cases q with
    | zero=>simp at hq;subst hq;simpa using hc
    | succ q=>simp at hq)
   rcases h1 with h1 | h1
   ·rw[rJ] at h1;exact rS.same (by simpa [Instr.loadAt,Instr.sureAddr] using h1) (cw.v (.ptr hu hg))
   ·cases h1
  ·cases hk
 ·rename_i b j sz off;obtain⟨hu,β,hg,rfl⟩:=hx.ju;have hb:=h.l_ b;have key:∀ (l:List UInt8) (c:Array Value) (e:TypeId) (n:Nat),w.heap[β]? = Zz (.cells c e (0,0))->(c.toList.take n=l.map jk)->az (Zk j l.length&&Zy off 0&&Zy sz 1 && !cS i.kind) (k (.u8 (l.getD j 0)) fr.st ⟨[b],[]⟩)=Zz r ->
    ∃ v fp,k v fr.st fp=Zz r/\rS w p g fr.st v ((Instr.loadAt t (.pointer (Zz ⟨β,j*sz+off,none⟩))).run P w):=by
   intro l c e n hh hc bc;obtain⟨dC,cI⟩:=aH bc;simp only[Zp,Bool.not_eq_true'] at dC;obtain⟨⟨⟨hj,ho⟩,hs⟩,rJ⟩:=dC;have fz:j<l.length:=Zu hj;have I5:=Zx ho;have hs':=Zx hs;subst I5;subst hs';refine⟨_,_,cI,rS.same (v':=jk (l.getD j 0)) ?_ (bM.v .u8)⟩;have hcell:w.cell? ⟨β,j,none⟩=Zz (jk (l.getD j 0)):=by
    rw[eN hh];have h1:(l.map jk)[j]? = Zz (jk (l.getD j 0)):=by simp[fz]
    rw[<-hc,Zj] at h1;split at h1
    ·simpa using h1
    ·cases h1
   obtain⟨info,z,a1,a2,a3,a4,a5,a6,a7,a8,a9,_⟩:=bg hi;simp[Instr.loadAt,Instr.sureAddr,loadVar,nY a8,rJ,hcell]
  split at hk
  ·rename_i e l gU dc;rw[dc] at hb;obtain⟨⟨hlen,⟨hn,a,hv⟩ | ⟨β',cap,jl,hv,h0,hB,hh,tL,yF,hcs,fK⟩⟩,_⟩:=hb
   ·rw[hv] at hg;cases a<;>simp[bH] at hg
   ·rw[hv] at hg;have:β'=β:=by simp[bH] at hg;exact hg.2
    subst this;exact key l jl e _ hh fK hk
  ·rename_i l gU dc;rw[dc] at hb;obtain⟨β',c,e,h1,h2,h3,h4,h5⟩:=hb;rw[h1] at hg;have:β'=β:=by simp[bH] at hg;exact hg
   subst this;exact key l c e c.size h3 (by rw[List.take_of_length_le (by simp)];exact h4) hk
  ·rename_i e z l gU dc;rw[dc] at hb;split at hk
   ·rename_i ei ie;obtain⟨dC,bc⟩:=aH hk;simp only[Zp] at dC;have fz:j<l.length:=Zu dC.1;have hz:=Zx dC.2;subst hz;have cI:=iU bc;obtain⟨ru,eZ,vs,⟨hlen,⟨hn,a,hv⟩ | ⟨β',cap,jl,hv,h0,hB,hh,tL,yF,hcs,fK⟩⟩,dh,hp⟩:=hb
    ·omega
    ·rw[hv] at hg;have:β'=β:=by simp[bH] at hg;exact hg.2
     subst this;have sD:l[j]? = Zz (l.getD j .undef):=by simp[fz]
     have RE:=FN (dh.imp fun _ _ hh=>cw.kZ (g:=g) (u:=used fr.st) hh) eZ sD off;obtain⟨v,rn,QZ⟩:=m4 (P:=P) hi h (β:=β') (off:=j*z+off) RE (fun q v hq=>by
      rw[Zj] at hq;split at hq
      ·rw[Yx,<-fK,Zj] at hq;split at hq
       ·rw[eN hh];simpa using hq
       ·cases hq
      ·cases hq) cI
     exact⟨v,_,rn,by simpa [Instr.loadAt,Instr.sureAddr] using QZ⟩
   ·cases hk
  ·rename_i e z l dc;rw[dc] at hb;split at hk
   ·rename_i ei ie;obtain⟨dC,bc⟩:=aH hk;simp only[Zp] at dC;have fz:j<l.length:=Zu dC.1;have hz:=Zx dC.2;subst hz;have cI:=iU bc;obtain⟨β',cap,hv,hB,ru,eZ,h0,tL,yF,hp,jl,vs,hh,hcs,hlen,fK,dh⟩:=hb
    ·rw[hv] at hg;have:β'=β:=by simp[bH] at hg;exact hg.2
     subst this;have sD:l[j]? = Zz (l.getD j .undef):=by simp[fz]
     have RE:=FN (dh.imp fun _ _ hh=>cw.kZ (g:=g) (u:=used fr.st) hh) eZ sD off;obtain⟨v,rn,QZ⟩:=m4 (P:=P) hi h (β:=β') (off:=j*z+off) RE (fun q v hq=>by
      rw[Zj] at hq;split at hq
      ·rw[Yx,<-fK,Zj] at hq;split at hq
       ·rw[eN hh];simpa using hq
       ·cases hq
      ·cases hq) cI
     exact⟨v,_,rn,by simpa [Instr.loadAt,Instr.sureAddr] using QZ⟩
   ·cases hk
  ·cases hk
 ·cases hk
theorem JM{α:Type}{E:Env}(eG:∀ t i,E.ty t=Zz i->ez P t=Zz i){fr:Fr}{t:Nat}{i:TI}(hi:ez P t=Zz i)(h:bU B M w0 p0 w p g fr.st){x:Value}{a:AV}(hx:bj w p g (used fr.st) x a){k:kH α}{r:α}(hk:jt E fr i a k=Zz r) :
  ∃ v fp,k v fr.st fp=Zz r/\Good B M w0 p0 w p g fr.st v fr.st ((Instr.loadAt t x).run P w):=by
 obtain⟨v,fp,h1,h2⟩:=tj eG hi h hx hk;exact⟨v,fp,h1,h2.lE h⟩
end
end Go.Abs
/- Operations on numbers, truth values and strings; stores. -/
namespace Go.Abs
section
variable {P:Program} {B:Nat} {M:Nat->Prop} {w0:World} {p0:bq} {w:World} {p:bq} {g:Nat->Value} {u:Nat->Prop}
theorem gj{α:Type}{x y:Value}{a b:AV}(hx:bj w p g u x a)(hy:bj w p g u y b){k:IntKind->Int->Int->Option α}{r:α}(h:gV a b k=Zz r) :
  ∃ kd n m,x = .int kd n/\y = .int kd m/\k kd n m=Zz r/\(kd = .u8->(0<=n/\n<256)/\(0<=m/\m<256)):=by
 unfold gV at h;split at h
 ·rename_i k1 n k2 m;obtain⟨rfl,h1⟩:=hx.int;obtain⟨rfl,h2⟩:=hy.int;cases he:(k1==k2) with
  | false=>simp[he] at h
  | true =>
   simp[he] at h;have:k1=k2:=by simpa using he
   subst this;exact⟨k1,n,m,rfl,rfl,h,fun e=>absurd e h1⟩
 ·rename_i n m;have e1:=hx.u8;have e2:=hy.u8;subst e1;subst e2;refine⟨.u8,n.toNat,m.toNat,rfl,rfl,h,fun _=> ?_⟩;have:=n.toNat_lt;have:=m.toNat_lt
  omega
 ·cases h
theorem eS(op:BinOp)(t:TypeId)(k:IntKind)(n m:Int)(h1:op ≠ .shl)(h2:op ≠ .shr) :
  binOp op t (.int k n) (.int k m)=(match op with
  | .add | .sub | .mul=>Op.intArith op k n m
  | .quo | .rem=>Op.intDiv op k n m
  | .and | .or | .xor | .andNot=>Op.intBits op k n m
  | _=>Op.intCmp op n m):=by
 cases op<;>first | exact absurd rfl h1 | exact absurd rfl h2 | simp[binOp]
theorem K5{n m:Int}(hn:0<=n/\n<256):0<=n.tmod m/\n.tmod m<256:=by
 have h1:0<=n.tmod m:=Int.tmod_nonneg m hn.1;have h2:=Int.natAbs_tmod n m;have h3:=Nat.mod_le n.natAbs m.natAbs;omega
theorem tW{y:Value}{b:AV}(hy:bj w p g u y b){m:Int}(h:qj b=Zz m):∃ k,y = .int k m:=by
 unfold qj at h;split at h
 ·cases h;exact⟨_,hy.int.1⟩
 ·cases h;exact⟨_,hy.u8⟩
 ·cases h
theorem iI{y:Value}{b:AV}(hy:bj w p g u y b){m:Int}(h:idx b=Zz m):∃ k,y = .int k m:=by
 unfold idx at h;split at h
 ·cases h;exact⟨_,hy.int.1⟩
 ·cases h;exact⟨_,hy.u8⟩
 ·cases h
theorem Rx{n:Int}{j:Nat}(hn:0<=n/\n<256):0<=n.fdiv (2 ^ j)/\n.fdiv (2 ^ j)<256:=by
 have hp:(0:Int)<2 ^ j:=Int.pow_pos (by decide);rw[Int.fdiv_eq_ediv_of_nonneg _ (Int.le_of_lt hp)];have h1:=Int.ediv_nonneg hn.1 (Int.le_of_lt hp);have h2:=Int.ediv_le_self (2 ^ j) hn.1;omega
theorem qy{x y:Value}{a b:AV}(hx:bj w p g u x a)(hy:bj w p g u y b){c:Bool}(h:ly a b=Zz c) :
  (∃ k n m,x = .int k n/\y = .int k m/\c=(n==m))\/(∃ s t,x = .bool s/\y = .bool t/\c=(s==t))\/(∃ s t:ByteArray,x = .string s/\y = .string t/\c=(s.data.toList==t.data.toList)):=by
 unfold ly at h;split at h
 ·rename_i k1 n k2 m;obtain⟨rfl,_⟩:=hx.int;obtain⟨rfl,_⟩:=hy.int;cases he:(k1==k2) with
  | false=>simp[he] at h
  | true =>
   simp[he] at h;have:k1=k2:=by simpa using he
   subst this;exact .inl ⟨_,_,_,rfl,rfl,h.symm⟩
 ·rename_i n m;have e1:=hx.u8;have e2:=hy.u8;subst e1;subst e2;cases h;refine .inl ⟨_,_,_,rfl,rfl,?_⟩;rw[Bool.eq_iff_iff];simp;constructor
  ·rintro rfl;rfl
  ·intro h;exact UInt8.toNat.inj (by omega)
 ·have e1:=hx.bool;have e2:=hy.bool;subst e1;subst e2;cases h;exact .inr (.inl ⟨_,_,rfl,rfl,rfl⟩)
 ·obtain⟨s,rfl,hs⟩:=hx.str;obtain⟨t,rfl,ht⟩:=hy.str;cases h;exact .inr (.inr ⟨s,t,rfl,rfl,by rw[hs,ht]⟩)
 ·cases h
theorem yS{t:TypeId}{x y:Value}{a b:AV}(hx:bj w p g u x a)(hy:bj w p g u y b){c:Bool}(h:ly a b=Zz c)(hb:∀ s r,x = .bool s->y = .bool r->P.underlying t=Zz .bool) :
  (binOp .eql t x y).run P w = .ok (.bool c) w/\(binOp .neq t x y).run P w = .ok (.bool !c) w:=by
 rcases qy hx hy h with⟨k,n,m,rfl,rfl,rfl⟩ | ⟨s,r,rfl,rfl,rfl⟩ | ⟨s,r,rfl,rfl,rfl⟩
 ·constructor<;>simp[binOp,Op.intCmp,bne]
 ·have:=hb s r rfl rfl;have he:∀ d,(Op.equalIn (d+1) t (.bool s) (.bool r)).run P w = .ok (s==r) w:=fun d=>by simp[Op.equalIn,run_underlying this]
  constructor<;>(simp only[binOp];simp[Op.equal,Op.maxDepth,he 9999])
 ·constructor<;>simp[binOp,Op.stringOp,Lib.toList_data]
theorem Ef{op:BinOp}{t:TypeId}{x y:Operand}{v v':Value}(h:∀ cM,v ≠ .agg cM)(h':v ≠ .nilIface):(eqGuard op t x y v v').run P w = .ok () w:=by
 cases op<;>first | rfl | (cases v<;>first | rfl | exact absurd rfl (h _) | exact absurd rfl h')
theorem Hp{v:Value}{a:AV}(h:bj w p g u v a)(hc:a.dz=Zn):(∀ cM,v ≠ .agg cM)/\v ≠ .nilIface:=by
 rcases h with rfl | (h | ⟨cM,cs,rfl,rfl,h⟩) | ⟨cM,cs,rfl,rfl,h⟩
 ·simp[AV.dz] at hc
 ·cases h with
  | kZ h=>cases h<;>simp[jk]
  | ptr=>simp
  | ju=>simp
  | row hu hs=>obtain⟨a,l,c,e⟩:=hs;rw[e];simp
  | mp=>simp
  | bE hu hs=>obtain⟨a,l,c,e⟩:=hs;rw[e];simp
  | bC=>simp
  | qd=>simp
  | pre=>simp
  | Fu=>simp
  | BV=>simp
 ·simp[AV.dz] at hc
 ·simp[AV.dz] at hc
theorem Sb{op:BinOp}{t:TypeId}{x y:Value}{a b v:AV}(hx:bj w p g u x a)(hy:bj w p g u y b)(h:mh op a b=Zz v)(ha:a.dz=Zn)
  (hb:∀ s r,x = .bool s->y = .bool r->P.underlying t=Zz .bool):∃ v',(binOp op t x y).run P w = .ok v' w/\bM w p v' v:=by
 unfold mh at h;split at h
 ·-- shl
  split at h
  ·rename_i k n m hm;obtain⟨rfl,hk⟩:=hx.int;obtain⟨k',rfl⟩:=tW hy hm;cases h0:Zw (0<=m) with
   | false=>simp[h0,az] at h
   | true =>
    simp[h0,az] at h;subst h;have:¬ m<0:=by simp at h0;omega
    exact⟨_,by simp[binOp,Op.shift,this],.int hk⟩
  ·rename_i n m hm;have e:=hx.u8;subst e;obtain⟨k',rfl⟩:=tW hy hm;cases h0:Zw (0<=m) with
   | false=>simp[h0,az] at h
   | true =>
    simp[h0,az] at h;subst h;have:¬ m<0:=by simp at h0;omega
    refine⟨_,?_,gn fun _=>wrap_u8 _⟩;simp[jk,binOp,Op.shift,this,IntKind.bits]
  ·cases h
 ·-- shr
  split at h
  ·rename_i k n m hm;obtain⟨rfl,hk⟩:=hx.int;obtain⟨k',rfl⟩:=tW hy hm;cases h0:Zw (0<=m) with
   | false=>simp[h0,az] at h
   | true =>
    simp[h0,az] at h;subst h;have:¬ m<0:=by simp at h0;omega
    exact⟨_,by simp[binOp,Op.shift,this],.int hk⟩
  ·rename_i n m hm;have e:=hx.u8;subst e;obtain⟨k',rfl⟩:=tW hy hm;cases h0:Zw (0<=m) with
   | false=>simp[h0,az] at h
   | true =>
    simp[h0,az] at h;subst h;have:¬ m<0:=by simp at h0;omega
    have hn:=n.toNat_lt;refine⟨_,?_,gn fun _=>Rx ⟨by omega,by omega⟩⟩;simp[jk,binOp,Op.shift,this,IntKind.bits]
  ·cases h
 ·-- add
  split at h
  ·rename_i s s';obtain⟨s,rfl,rfl⟩:=hx.str;obtain⟨s',rfl,rfl⟩:=hy.str;cases h0:Zw (s.data.toList.length+s'.data.toList.length<=4611686018427387904) with
   | false=>rw[h0] at h;cases h
   | true =>
    simp only[h0,az,Qa5,Option.some.injEq] at h;subst h;have hle:s.size+s'.size<=4611686018427387904:=by simpa using Qa3 h0
    have:¬ ((s.size+s'.size:Nat):Int)>IntKind.i64.max:=by simp[IntKind.max,IntKind.signed,IntKind.bits];omega
    refine⟨.string (s++s'),?_,.str (by simp)⟩;simp only[binOp,Op.stringOp,this,if_false];rfl
  ·obtain⟨k,n,m,rfl,rfl,hk,hr⟩:=gj hx hy h;cases hk;exact⟨_,by rw[eS _ _ _ _ _ (by simp) (by simp)];simp[Op.intArith],gn fun e=>by subst e;exact wrap_u8 _⟩
 ·obtain⟨k,n,m,rfl,rfl,hk,hr⟩:=gj hx hy h;cases hk;exact⟨_,by rw[eS _ _ _ _ _ (by simp) (by simp)];simp[Op.intArith],gn fun e=>by subst e;exact wrap_u8 _⟩
 ·obtain⟨k,n,m,rfl,rfl,hk,hr⟩:=gj hx hy h;cases hk;exact⟨_,by rw[eS _ _ _ _ _ (by simp) (by simp)];simp[Op.intArith],gn fun e=>by subst e;exact wrap_u8 _⟩
 ·-- quo
  obtain⟨k,n,m,rfl,rfl,hk,hr⟩:=gj hx hy h;cases h0:(m==0) with
  | true=>simp[h0,az] at hk
  | false =>
   simp[h0,az] at hk;subst hk;have:m≠0:=by simpa using h0
   exact⟨_,by rw[eS _ _ _ _ _ (by simp) (by simp)];simp[Op.intDiv,this],gn fun e=>by subst e;exact wrap_u8 _⟩
 ·-- rem
  obtain⟨k,n,m,rfl,rfl,hk,hr⟩:=gj hx hy h;cases h0:(m==0) with
  | true=>simp[h0,az] at hk
  | false =>
   simp[h0,az] at hk;subst hk;have:m≠0:=by simpa using h0
   exact⟨_,by rw[eS _ _ _ _ _ (by simp) (by simp)];simp[Op.intDiv,this],gn fun e=>by subst e;exact K5 (hr rfl).1⟩
 ·obtain⟨k,n,m,rfl,rfl,hk,hr⟩:=gj hx hy h;cases hk;exact⟨_,by rw[eS _ _ _ _ _ (by simp) (by simp)];rfl,gn fun e=>by subst e;exact wrap_u8 _⟩
 ·obtain⟨k,n,m,rfl,rfl,hk,hr⟩:=gj hx hy h;cases hk;exact⟨_,by rw[eS _ _ _ _ _ (by simp) (by simp)];rfl,gn fun e=>by subst e;exact wrap_u8 _⟩
 ·obtain⟨k,n,m,rfl,rfl,hk,hr⟩:=gj hx hy h;cases hk;exact⟨_,by rw[eS _ _ _ _ _ (by simp) (by simp)];rfl,gn fun e=>by subst e;exact wrap_u8 _⟩
 ·-- lss
  split at h
  ·obtain⟨s,rfl,rfl⟩:=hx.str;obtain⟨s',rfl,rfl⟩:=hy.str;cases h;exact⟨_,by simp[binOp,Op.stringOp,Lib.toList_data],.bool⟩
  ·obtain⟨k,n,m,rfl,rfl,hk,hr⟩:=gj hx hy h;cases hk;exact⟨_,by rw[eS _ _ _ _ _ (by simp) (by simp)];rfl,.bool⟩
 ·split at h
  ·obtain⟨s,rfl,rfl⟩:=hx.str;obtain⟨s',rfl,rfl⟩:=hy.str;cases h;exact⟨.bool _,by simp only[binOp,Op.stringOp,Lib.toList_data];rfl,.bool⟩
  ·obtain⟨k,n,m,rfl,rfl,hk,hr⟩:=gj hx hy h;cases hk;exact⟨_,by rw[eS _ _ _ _ _ (by simp) (by simp)];rfl,.bool⟩
 ·-- gtr
  split at h
  ·obtain⟨s,rfl,rfl⟩:=hx.str;obtain⟨s',rfl,rfl⟩:=hy.str;cases h;exact⟨.bool _,by simp only[binOp,Op.stringOp,Lib.toList_data];rfl,.bool⟩
  ·obtain⟨k,n,m,rfl,rfl,hk,hr⟩:=gj hx hy h;cases hk;exact⟨_,by rw[eS _ _ _ _ _ (by simp) (by simp)];rfl,.bool⟩
 ·split at h
  ·obtain⟨s,rfl,rfl⟩:=hx.str;obtain⟨s',rfl,rfl⟩:=hy.str;cases h;exact⟨.bool _,by simp only[binOp,Op.stringOp,Lib.toList_data];rfl,.bool⟩
  ·obtain⟨k,n,m,rfl,rfl,hk,hr⟩:=gj hx hy h;cases hk;exact⟨_,by rw[eS _ _ _ _ _ (by simp) (by simp)];rfl,.bool⟩
 ·-- eql
  split at h
  ·simp[AV.dz] at ha
  ·cases hc:ly a b with
   | none=>simp[hc] at h
   | some c =>
    simp[hc] at h;subst h;exact⟨_,(yS hx hy hc hb).1,.bool⟩
 ·split at h
  ·simp[AV.dz] at ha
  ·cases hc:ly a b with
   | none=>simp[hc] at h
   | some c =>
    simp[hc] at h;subst h;exact⟨_,(yS hx hy hc hb).2,.bool⟩
 ·cases h
theorem U3{op:UnOp}{x:Value}{a v:AV}(hx:bj w p g u x a)(h:TM op a=Zz v):∃ v',(Op.unary op x).run P w = .ok v' w/\bM w p v' v:=by
 unfold TM at h;split at h
 ·have e:=hx.bool;subst e;cases h;exact⟨_,rfl,.bool⟩
 ·obtain⟨rfl,hk⟩:=hx.int;cases h;exact⟨_,by simp[Op.unary,Op.intArith],.int hk⟩
 ·cases h
end
end Go.Abs
/- Values that go out of a frame; stores. -/
namespace Go.Abs
section
variable {P:Program} {B:Nat} {M:Nat->Prop} {w0:World} {p0:bq} {w:World} {p:bq} {g:Nat->Value}
theorem bU.relabel{st:Nat->bw}(h:bU B M w0 p0 w p g st){k:Nat}{b:bw}{p':bq}(hk:(st k).live)(hb:b.live)(hp:∀ β,bH (g k)≠Zz β->p' β=p β)
  (hle:∀ β,bH (g k)=Zz β->p β<=p' β) (hB0:∀ β,bH (g k)=Zz β->β<B->M β/\p' β=p β)
  (hB:cG w p g (used st) w p' g (used (cu st k b))->mg w p' g (used (cu st k b)) B M k b) :
  bU B M w0 p0 w p' g (cu st k b)/\cG w p g (used st) w p' g (used (cu st k b)):=by
 have LA:b ≠ .free:=fun e=>by rw[e] at hb;exact hb
 have hu:∀ j,used st j->used (cu st k b) j:=fun j hj=>oL LA hj;have sF:∀ β,p β<=p' β:=fun β=>by
  by_cases e:bH (g k)=Zz β
  ·exact hle β e
  ·rw[hp β e];exact Zd _
 refine h.change rfl rfl rfl (Zd _) (fun j=>j=k) (fun β=>bH (g k)=Zz β) (fun j hj=>bP _ _ hj) hu (fun _ _=>rfl) (fun β _ hd=>⟨rfl,hp β hd⟩) (fun β hd hlB=>hB0 β hd hlB) sF (fun _ _ _=>rfl) ?_ ?_ ?_ ?_
 ·intro β hβ;rw[hp β (fun e=>by have:=(h.l_ k).uc hk e;omega)];exact h.lT β hβ
 ·intro j β hj hl hv hd;exact h.rI j k β hj hl hk hv hd
 ·rintro j rfl;rw[aQ];exact hB ⟨sF,fun _ _ _=>rfl,fun _ _=>rfl,hu⟩
 ·rintro j j' β rfl gA _ rp Kx mW;rw[bP _ _ gA] at rp;exact h.rI j j' β (Ne.symm gA) hk rp Kx mW
def raise(p:bq)(o:Option Nat)(n:Nat):bq:=fun β=>if o=Zz β then n else p β
theorem fS{p:bq}{o:Option Nat}{n β:Nat}(h:o=Zz β):raise p o n β=n:=by simp[raise,h]
theorem l6{p:bq}{o:Option Nat}{n β:Nat}(h:o≠Zz β):raise p o n β=p β:=by simp[raise,h]
theorem Ph{st:Nat->bw}(h:bU B M w0 p0 w p g st){k e:Nat}{l:List UInt8}{gU:Bool}(hk:st k = .eo e l gU) :
  ∃ p',bU B M w0 p0 w p' g (cu st k (.eo e l Zn))/\cG w p g (used st) w p' g (used (cu st k (.eo e l Zn)))/\bM w p' (g k) (.bs l):=by
 have hb:=h.l_ k;rw[hk] at hb;obtain⟨bE,hp⟩:=hb;have hB:∀ β,bH (g k)=Zz β->B<=β:=fun β hv=>by
  obtain⟨_,⟨_,a,hg⟩ | ⟨β',cap,jl,hg,h0,hB,_⟩⟩:=bE
  ·rw[hg] at hv;cases a<;>simp[bH] at hv
  ·rw[hg] at hv;have:β'=β:=by simp[bH] at hv;exact hv.2
   omega
 obtain⟨hs,hm⟩:=h.relabel (k:=k) (b := .eo e l Zn) (p':=raise p (bH (g k)) l.length) (by rw[hk];trivial) trivial (fun β hv=>l6 hv)
  (fun β hv=>by rw[fS hv];exact(hp β hv).1) (fun β hv fz=>by have:=hB β hv;omega)
  (fun hm=>⟨bE,fun β hv=>⟨by rw[fS hv];exact Zd _,fun e=>by cases e⟩⟩)
 refine⟨_,hs,hm,?_⟩;obtain⟨hlen,⟨hn,a,hg⟩ | ⟨β,cap,jl,hg,h0,hB',hh,tL,yF,hcs,fK⟩⟩:=bE
 ·have:l=[]:=Yz hn;subst this;rw[hg];exact .bs 0 0 rfl (Zd _) (.inl rfl) (fun i b hi=>by simp at hi)
 ·rw[hg];refine .bs β 0 rfl tL (.inr rfl) fun i b hi=>⟨?_,?_⟩
  ·rw[fS (by simp[bH];omega)];have:=(Zq.1 hi).1;omega
  ·rw[eN hh];have h1:(l.map jk)[i]? = Zz (jk b):=by simp[hi]
   rw[<-fK,Zj] at h1;split at h1
   ·simpa using h1
   ·cases h1
theorem Pj{st:Nat->bw}(h:bU B M w0 p0 w p g st){k e z:Nat}{l:List AV}{gU:Bool}(hk:st k = .c7 e z l gU) :
  ∃ p',bU B M w0 p0 w p' g (cu st k (.c7 e z l Zn))/\cG w p g (used st) w p' g (used (cu st k (.c7 e z l Zn)))/\bM w p' (g k) (.sl z l):=by
 have hb:=h.l_ k;rw[hk] at hb;obtain⟨hz,eZ,vs,bE,dh,hp⟩:=hb;have hB:∀ β,bH (g k)=Zz β->B<=β:=fun β hv=>by
  obtain⟨_,⟨_,a,hg⟩ | ⟨β',cap,jl,hg,h0,hB,_⟩⟩:=bE
  ·rw[hg] at hv;cases a<;>simp[bH] at hv
  ·rw[hg] at hv;have:β'=β:=by simp[bH] at hv;exact hv.2
   omega
 obtain⟨hs,hm⟩:=h.relabel (k:=k) (b := .c7 e z l Zn) (p':=raise p (bH (g k)) (l.length*z)) (by rw[hk];trivial) trivial (fun β hv=>l6 hv)
  (fun β hv=>by rw[fS hv];exact(hp β hv).1) (fun β hv fz=>by have:=hB β hv;omega)
  (fun hm=>⟨hz,eZ,vs,bE,dh.imp fun _ _=>hm.ui,fun β hv=>⟨by rw[fS hv];exact Zd _,fun e=>by cases e⟩⟩)
 refine⟨_,hs,hm,?_⟩;have T8:=iE eZ;obtain⟨hlen,⟨hn,a,hg⟩ | ⟨β,cap,jl,hg,h0,hB',hh,tL,yF,hcs,fK⟩⟩:=bE
 ·have:l=[]:=Yz hn;subst this;rw[hg];exact .sl 0 0 (fun _=>undef) rfl (Zd _) (fun _ h=>by cases h) (.inl rfl) (fun i b hi=>by simp at hi) (fun i b hi=>by simp at hi)
 ·have Fs:=dh.imp fun v c LO=>hm.ui LO;rw[hg] at Fs ⊢;refine .sl β 0 (fun j=>vs.getD j undef) rfl tL eZ (.inr rfl) (fun j c hj=>⟨?_,?_⟩) (fun j c hj=> ?_)
  ·rw[fS (by simp[bH];omega)];have:=(Zq.1 hj).1;omega
  ·obtain⟨v,hv,_⟩:=Fs.get hj;rw[eN hh];have h1:=hv;rw[<-fK,Zj] at h1;split at h1
   ·simp[hv];simpa using h1
   ·cases h1
  ·obtain⟨v,hv,hr⟩:=Fs.get hj;simp[hv];exact hr
def jg(w:World)(p:bq)(v:Value)(a:AV):Prop:=bM w p v a\/∃ cM cs,v = .agg cM/\a = .agg cs/\aV (bM w p) cM.toList cs
theorem jg.v{u:Nat->Prop}{v:Value}{a:AV}(h:jg w p v a):bj w p g u v a:=by
 rcases h with h | ⟨cM,cs,rfl,rfl,h⟩
 ·exact h.v
 ·exact .inr (.inl (.inr ⟨cM,cs,rfl,rfl,h.imp fun _ _ => .kZ⟩))
theorem jg.mono{w':World}{p':bq}(hp:∀ β,p β<=p' β)(hc:∀ β i,i<p β->w'.cell? ⟨β,i,none⟩=w.cell? ⟨β,i,none⟩){v:Value}{a:AV}(h:jg w p v a):jg w' p' v a:=by
 rcases h with h | ⟨cM,cs,rfl,rfl,h⟩
 ·exact .inl (h.mono hp hc)
 ·exact .inr ⟨cM,cs,rfl,rfl,h.imp fun _ _ hh=>hh.mono hp hc⟩
theorem jg.cells{v:Value}{a:AV}(h:jg w p v a):aV (bM w p) v.cells.toList a.cells:=by
 rcases h with h | ⟨cM,cs,rfl,rfl,h⟩
 ·rw[h.rY.1,h.rY.2.2.1];exact .cons h .nil
 ·exact h
def jo(st st':Nat->bw):Prop:=(∀ b cs,st b = .cells cs->st' b = .cells cs)/\∀ b e z l,st b = .hZ e z l->st' b = .hZ e z l
theorem jo.refl{st:Nat->bw}:jo st st:=⟨fun _ _ h=>h,fun _ _ _ _ h=>h⟩
theorem jo.trans{a b c:Nat->bw}(h:jo a b)(k:jo b c):jo a c:=⟨fun x cs hx=>k.1 x cs (h.1 x cs hx),fun x e z l hx=>k.2 x e z l (h.2 x e z l hx)⟩
theorem jo.cu{st:Nat->bw}{r:Nat}{x:bw}(h:∀ cs,st r ≠ .cells cs)(h2:∀ e z l,st r ≠ .hZ e z l):jo st (Abs.cu st r x) :=
 ⟨fun b cs hb=>by rw[bP _ _ (fun e=>by subst e;exact h cs hb)];exact hb,fun b e z l hb=>by rw[bP _ _ (fun q=>by subst q;exact h2 e z l hb)];exact hb⟩
theorem tX{α:Type}{st:Nat->bw}(h:bU B M w0 p0 w p g st){c:CT}{x:Value}{v:AV}(hx:bj w p g (used st) x v){k:AV->(Nat->bw)->FP->Option α}{r:α}(hk:A7 c v st k=Zz r) :
  ∃ a st' fp p',k a st' fp=Zz r/\bU B M w0 p0 w p' g st'/\cG w p g (used st) w p' g (used st')/\bM w p' x a/\jo st st':=by
 unfold A7 at hk;split at hk
 ·obtain⟨a,rfl⟩:=hx.cY;exact⟨_,_,_,p,hk,h,cG.refl,.bs 0 0 rfl (Zd _) (.inl rfl) (fun i b hi=>by simp at hi),jo.refl⟩
 ·obtain⟨a,rfl⟩:=hx.cY;exact⟨_,_,_,p,hk,h,cG.refl,.sl 0 0 (fun _=>undef) rfl (Zd _) (fun _ h=>by cases h) (.inl rfl) (fun i b hi=>by simp at hi) (fun i b hi=>by simp at hi),jo.refl⟩
 ·rename_i r';obtain⟨hu,rfl,_⟩:=hx.row;split at hk
  ·rename_i e l gU dc;obtain⟨p',hs,hm,hr⟩:=Ph h dc;exact⟨_,_,_,p',hk,hs,hm,hr,jo.cu (fun cs e=>by rw[dc] at e;cases e) (fun e z l q=>by rw[dc] at q;cases q)⟩
  ·rename_i e z l gU dc;obtain⟨p',hs,hm,hr⟩:=Pj h dc;exact⟨_,_,_,p',hk,hs,hm,hr,jo.cu (fun cs e=>by rw[dc] at e;cases e) (fun e z l q=>by rw[dc] at q;cases q)⟩
  ·cases hk
 ·obtain⟨rfl,hn⟩:=hx.int;exact⟨_,_,_,p,hk,h,cG.refl,.int hn,jo.refl⟩
 ·have e:=hx.u8;subst e;exact⟨_,_,_,p,hk,h,cG.refl,.u8,jo.refl⟩
 ·have e:=hx.bool;subst e;exact⟨_,_,_,p,hk,h,cG.refl,.bool,jo.refl⟩
 ·obtain⟨s,rfl,hs⟩:=hx.str;exact⟨_,_,_,p,hk,h,cG.refl,.str hs,jo.refl⟩
 ·exact⟨_,_,_,p,hk,h,cG.refl,hx.bs,jo.refl⟩
 ·exact⟨_,_,_,p,hk,h,cG.refl,hx.sl,jo.refl⟩
 ·have:bM w p x .mc:=by
   rcases hx with hx | (hx | ⟨cM,cs,_,hx,_⟩) | ⟨cM,cs,_,hx,_⟩<;>first | cases hx
   assumption
  exact⟨_,_,_,p,hk,h,cG.refl,this,jo.refl⟩
 ·exact⟨_,_,_,p,hk,h,cG.refl,hx.jz,jo.refl⟩
 ·cases hk
theorem Bl{α:Type}{st:Nat->bw}(h:bU B M w0 p0 w p g st){c:CT}{x:Value}{v:AV}(hx:bj w p g (used st) x v){k:AV->(Nat->bw)->FP->Option α}{r:α}(hk:A7 c v st k=Zz r) :
  ∃ a st' fp p',k a st' fp=Zz r/\bU B M w0 p0 w p' g st'/\cG w p g (used st) w p' g (used st')/\bM w p' x a:=by
 obtain⟨a,st',fp,p',h1,h2,h3,h4,_⟩:=tX h hx hk;exact⟨a,st',fp,p',h1,h2,h3,h4⟩
theorem oI{α:Type}:∀ {gy:List CT} {vs:List AV} {xs:List Value} {st:Nat->bw} {p:bq},bU B M w0 p0 w p g st->aV (cw w p g (used st)) xs vs->∀ {k:List AV->(Nat->bw)->FP->Option α} {r:α},
  mn gy vs st k=Zz r->∃ as st' fp p',k as st' fp=Zz r/\bU B M w0 p0 w p' g st'/\cG w p g (used st) w p' g (used st')/\aV (bM w p') xs as/\jo st st'
 | [],[],xs,st,p,h,hx,k,r,hk=>by
  simp only[mn] at hk;have:=hx.jd;subst this;exact⟨_,_,_,p,hk,h,cG.refl,.nil,jo.refl⟩
 | c::cs,v::vs,xs,st,p,h,hx,k,r,hk=>by
  simp only[mn] at hk;obtain⟨x,QX,rfl,h1,h2⟩:=hx.gY;obtain⟨a,cc,f1,p1,bW,jY,kD,rq,zq⟩:=tX h h1.v hk;obtain⟨as,bT,f2,p2,bc,ga,lG,nJ,Ar⟩:=oI jY (h2.imp fun _ _=>kD.Ct) bW;exact⟨_,_,_,p2,bc,ga,kD.trans lG,.cons (lG.ui rq) nJ,zq.trans Ar⟩
 | [],_::_,_,_,_,_,_,_,_,hk=>by simp[mn] at hk
 | _::_,[],_,_,_,_,_,_,_,hk=>by simp[mn] at hk
theorem xf{α:Type}{st:Nat->bw}(h:bU B M w0 p0 w p g st){i:TI}{x:Value}{v:AV}(hx:bj w p g (used st) x v){k:AV->(Nat->bw)->FP->Option α}{r:α}(hk:out i v st k=Zz r) :
  ∃ a st' fp p',k a st' fp=Zz r/\bU B M w0 p0 w p' g st'/\cG w p g (used st) w p' g (used st')/\jg w p' x a/\jo st st':=by
 unfold out at hk;split at hk
 ·obtain⟨cM,rfl,hc⟩:=hx.agg;obtain⟨as,st',fp,p',rn,hs,hm,hr,hp⟩:=oI h hc hk;exact⟨_,_,_,p',rn,hs,hm,.inr ⟨cM,as,rfl,rfl,hr⟩,hp⟩
 ·split at hk
  ·obtain⟨a,st',fp,p',rn,hs,hm,hr,hp⟩:=tX h hx hk;exact⟨_,_,_,p',rn,hs,hm,.inl hr,hp⟩
  ·cases hk
 ·cases hk
theorem zH{α:Type}{st:Nat->bw}(h:bU B M w0 p0 w p g st){i:TI}{x:Value}{v:AV}(hx:bj w p g (used st) x v){k:AV->(Nat->bw)->FP->Option α}{r:α}(hk:out i v st k=Zz r) :
  ∃ a st' fp p',k a st' fp=Zz r/\bU B M w0 p0 w p' g st'/\cG w p g (used st) w p' g (used st')/\jg w p' x a:=by
 obtain⟨a,st',fp,p',h1,h2,h3,h4,_⟩:=xf h hx hk;exact⟨a,st',fp,p',h1,h2,h3,h4⟩
def Fw(B:Nat)(M:Nat->Prop)(w0:World)(p0:bq)(w:World)(p:bq)(g:Nat->Value)(st:Nat->bw)(st':Nat->bw)(r:Result Unit):Prop :=
 ∃ w' p' g',r = .ok () w'/\bU B M w0 p0 w' p' g' st'/\cG w p g (used st) w' p' g' (used st')
theorem MF{β:Type}(c:List β)(j:Nat)(x:β)(h:j<c.length):c.take j++[x]++c.drop (j+1)=c.set j x:=by
 rw[List.set_eq_take_append_cons_drop,Qa1 h];simp
theorem oU{R:Value->AV->Prop}{vs us:List Value}{cs ds:List AV}(h:aV R vs cs)(k:aV R us ds)(off:Nat) :
  aV R (vs.take off++us++vs.drop (off+us.length)) (place cs off ds):=by
 unfold place;rw[k.len];exact((h.take off).append k).append (h.drop _)
theorem nS{t:Nat}{i:TI}(hi:ez P t=Zz i){β off:Nat}{c:Array Value}{e:TypeId}(hh:w.heap[β]? = Zz (.cells c e (0,0))){v:Value}(hl:v.cells.size=i.size)(uZ:off+i.size<=c.size)
  (h1:∀ x∈v.cells.toList,x.oneCell'=Zn) :
  (storeVar t ⟨β,off,none⟩ v).run P w = .ok () (w.setRow β (c.toList.take off++v.cells.toList++c.toList.drop (off+v.cells.toList.length)).toArray):=by
 obtain⟨info,z,a1,a2,a3,a4,a5,a6,a7,a8,a9,_⟩:=bg hi;have dc:=run_storeCells_at (P:=P) β off e v.cells.toList 0 c w hh (by simp;omega) h1;simp only[Nat.add_zero] at dc;simp[storeVar,run_sizeOf a1,a2,hl,dc]
theorem Jw(a b:List AV)(off:Nat)(n:List AV)(h:off+n.length<=a.length):place (a++b) off n=place a off n++b:=by grind [place]
theorem Hn(a b:List AV)(q:Nat)(n:List AV):place (a++b) (a.length+q) n=a++place b q n:=by
 unfold place;rw[List.take_append,List.drop_append,List.take_of_length_le (by omega),List.drop_of_length_le (by omega)];rw[show a.length+q-a.length=q by omega,show a.length+q+n.length-a.length=q+n.length by omega];simp
theorem Ah{sz off:Nat}{news:List AV}:∀ {els:List AV} {j:Nat} {x x':AV},els[j]? = Zz x->(∀ y∈els,y.cells.length=sz)->x'.cells=place x.cells off news->off+news.length<=sz ->
  (els.set j x').flatMap AV.cells=place (els.flatMap AV.cells) (j*sz+off) news
 | [],j,x,x',h,_,_,_=>by simp at h
 | y::r,0,x,x',h,hs,hx,hf=>by
  simp at h;subst h;have hy:=hs y (by simp);rw[List.set_cons_zero,Zg,Zg,hx,Nat.zero_mul,Nat.zero_add,Jw _ _ _ _ (by omega)]
 | y::r,j+1,x,x',h,hs,hx,hf=>by
  simp at h;have hy:=hs y (by simp);have ih:=Ah h (fun z hz=>hs z (by simp[hz])) hx hf;rw[List.set_cons_succ,Zg,Zg,ih];rw[show(j+1)*sz+off=y.cells.length+(j*sz+off) by rw[hy,Yy];omega,Hn]
theorem w6(cs:List AV)(off:Nat)(n:List AV)(h:off+n.length<=cs.length):(place cs off n).length=cs.length:=by
 unfold place;simp;omega
theorem xv{c:List Value}{n q:Nat}{us:List Value}(h:q+us.length<=n)(hn:n<=c.length):(c.take q++us++c.drop (q+us.length)).take n=(c.take n).take q++us++(c.take n).drop (q+us.length):=by
 apply List.ext_getElem?;intro i;simp only[Zj,List.getElem?_append,Yx,List.length_append,List.length_take];by_cases h1:i<n
 ·by_cases h2:i<q
  ·have e1:i<min q c.length+us.length:=by omega
   have e2:i<min q c.length:=by omega
   have e3:i<min q (min n c.length)+us.length:=by omega
   have e4:i<min q (min n c.length):=by omega
   simp[h1,h2,e1,e2,e3,e4]
  ·by_cases h3:i<q+us.length
   ·have e1:i<min q c.length+us.length:=by omega
    have e2:¬ i<min q c.length:=by omega
    have e3:i<min q (min n c.length)+us.length:=by omega
    have e4:¬ i<min q (min n c.length):=by omega
    simp[h1,e1,e2,e3,e4];congr 1;omega
   ·have e1:¬ i<min q c.length+us.length:=by omega
    have e3:¬ i<min q (min n c.length)+us.length:=by omega
    have e5:q+us.length+(i-(min q (min n c.length)+us.length))<n:=by omega
    simp[h1,e1,e3];rw[Qa1 (by omega)];congr 1;omega
 ·have e1:¬ i<min q (min n c.length)+us.length:=by omega
  simp[h1,e1];intro h5;omega
theorem Hz{α:Type}{E:Env}(eG:∀ t i,E.ty t=Zz i->ez P t=Zz i){fr:Fr}{t:Nat}{i:TI}(hi:ez P t=Zz i)(h:bU B M w0 p0 w p g fr.st){x y:Value}{a b:AV}(hx:bj w p g (used fr.st) x a)(hy:bj w p g (used fr.st) y b){k:kH α}{r:α}
  (hk:mR E fr i a b k=Zz r):∃ st' fp,k .undef st' fp=Zz r/\Fw B M w0 p0 w p g fr.st st' ((Instr.storeAt t x y).run P w):=by
 unfold mR at hk;split at hk
 ·rename_i kk off;obtain⟨hu,β,hg,rfl⟩:=hx.ptr;have hb:=h.l_ kk;split at hk
  ·rename_i cs dc;rw[dc] at hb;obtain⟨β',c,e,h1,h2,h3,h4,h5⟩:=hb;have:β'=β:=by rw[h1] at hg;cases hg;rfl
   subst this;obtain⟨dC,bc⟩:=cp hk;simp only[Zp,Qb0] at dC;obtain⟨⟨hlen,uZ⟩,hcell⟩:=dC;have pV:off+i.size<=cs.length:=Zu uZ;have hyc:=hy.cells hcell;rw[tT _ _ _ (by rw[hlen];exact pV)] at bc;refine⟨_,_,bc,?_⟩;have eZ:y.cells.size=i.size:=by have:=hyc.len;simp at this;omega
   have ahg:c.size=cs.length:=by have:=h4.len;simpa using this
   have dI:=nS (P:=P) (w:=w) hi h3 (v:=y) (off:=off) eZ (by omega) hyc.one;obtain⟨hs,hm⟩:=h.modify (k:=kk) (b := .cells (place cs off b.cells)) (w':=w.setRow β' (c.toList.take off++y.cells.toList++c.toList.drop (off+y.cells.toList.length)).toArray) (p':=p) (β₀:=β') (by rw[dc];trivial) trivial (by rw[h1];rfl)
    rfl rfl rfl (by simp) (fun β gA=>⟨setRow_other w β' β _ gA,rfl⟩) (fun fz=>⟨by rcases h2 with h2 | h2;exact h2;omega,rfl⟩) (Zd _) (fun i hi=>by rw[h5] at hi;omega)
    (fun hm=>⟨β',_,e,h1,h2,setRow_heap w β' c _ e _ h3,by
     have:=oU h4 hyc off;simpa using this.imp fun _ _=>hm.Ct,h5⟩)
   exact⟨_,p,g,by simpa [Instr.storeAt,Instr.sureAddr] using dI,hs,hm⟩
  ·cases hk
 ·rename_i kk j sz off;obtain⟨hu,β,hg,rfl⟩:=hx.ju;have hb:=h.l_ kk;have key:∀ (l:List UInt8) (c:Array Value) (e:TypeId) (n:Nat) (gU:Bool) (mk:List UInt8->bw),w.heap[β]? = Zz (.cells c e (0,0))->c.toList.take n=l.map jk->(gU=Zv->p β=0)->B<=β->(fr.st kk).live->(∀ l,(mk l).live) ->
    (∀ (xb:UInt8),j<l.length->gU=Zv->∀ (w':World),w'.heap[β]? = Zz (.cells (c.toList.set j (jk xb)).toArray e (0,0))->∀ u',mg w' p g u' B M kk (mk (l.set j xb))) ->
    (b.oB fun x=>az (Zk j l.length&&Zy off 0&&Zy sz 1&&Zy i.size 1 && !gU) (k .undef (cu fr.st kk (mk (l.set j x))) ⟨[kk],[kk]⟩))=Zz r ->
    ∃ st' fp,k .undef st' fp=Zz r/\Fw B M w0 p0 w p g fr.st st' ((Instr.storeAt t (.pointer (Zz ⟨β,j*sz+off,none⟩)) y).run P w):=by
   intro l c e n gU mk hh fK hp RA wD Ud abx bc;unfold AV.oB at bc;split at bc
   ·rename_i _ xb;have hyv:=hy.u8;subst hyv;obtain⟨dC,cI⟩:=aH bc;simp only[Zp,Bool.not_eq_true'] at dC;obtain⟨⟨⟨⟨hj,ho⟩,hs⟩,jY⟩,Et⟩:=dC;have fz:j<l.length:=Zu hj;have eZ:i.size=1:=Zx jY;have I5:=Zx ho;have hs':=Zx hs;subst I5;subst hs';subst Et;have hjc:j<c.size:=by
     have:=Qb3 List.length fK;simp at this;omega
    have dI:=nS (P:=P) (w:=w) hi hh (v:=jk xb) (off:=j) (by simp[jk,Value.cells,eZ]) (by omega) (fun x hx=>by simp[jk,Value.cells] at hx;subst hx;rfl);refine⟨_,_,cI,?_⟩;have dh:(jk xb).cells.toList=[jk xb]:=rfl;rw[dh] at dI;simp only[List.length_singleton] at dI;rw[MF _ _ _ (by simpa using hjc)] at dI;obtain⟨hs,hm⟩:=h.modify (k:=kk) (b:=mk (l.set j xb)) (w':=w.setRow β (c.toList.set j (jk xb)).toArray) (p':=p) (β₀:=β) wD (Ud _) hg
     rfl rfl rfl (by simp) (fun β' gA=>⟨setRow_other w β β' _ gA,rfl⟩) (fun fz=>by omega) (Zd _) (fun i hi=>by rw[hp rfl] at hi;omega)
     (fun hm=>abx xb fz rfl _ (setRow_heap w β c _ e _ hh) _)
    exact⟨_,p,g,by simpa [Instr.storeAt,Instr.sureAddr] using dI,hs,hm⟩
   ·cases bc
  split at hk
  ·rename_i e l gU dc;rw[dc] at hb;obtain⟨⟨hlen,⟨hn,a,hv⟩ | ⟨β',cap,jl,hv,h0,hB,hh,tL,yF,hcs,fK⟩⟩,hp⟩:=hb
   ·rw[hv] at hg;cases a<;>simp[bH] at hg
   ·have N6:β'=β:=by rw[hv] at hg;simp[bH] at hg;exact hg.2
    subst N6;refine key l jl e _ gU (fun l => .eo e l Zv) hh fK ((hp β' hg).2) hB (by rw[dc];trivial) (fun _=>trivial) ?_ hk;intro xb fz Et w' Oq u';refine⟨⟨by simp,.inr ⟨β',cap,_,hv.trans (by simp),h0,hB,Oq,by simpa using tL,yF,?_,?_⟩⟩,fun β mW=> ?_⟩
    ·simpa using hcs
    ·simp only[List.length_set];rw[List.take_set,fK,List.map_set]
    ·rw[hg] at mW;cases mW;exact⟨by rw[(hp β' hg).2 Et];exact Nat.zero_le _,fun _=>(hp β' hg).2 Et⟩
  ·rename_i l gU dc;rw[dc] at hb;obtain⟨β',c,e,h1,h2,h3,h4,h5,h6⟩:=hb;have N6:β'=β:=by rw[h1] at hg;simp[bH] at hg;exact hg
   subst N6;refine key l c e c.size gU (fun l => .iz l Zv) h3 (by rw[List.take_of_length_le (by simp)];exact h4) h6 h2 (by rw[dc];trivial) (fun _=>trivial) ?_ hk;intro xb fz Et w' Oq u';refine⟨β',_,e,h1,h2,Oq,?_,by rw[h6 Et];exact Nat.zero_le _,fun _=>h6 Et⟩;show c.toList.set j (jk xb)=_;rw[h4,List.map_set]
  ·rename_i e z l gU dc;split at hk
   ·rename_i ei ie;obtain⟨dC,bc⟩:=aH hk;simp only[Zp,Bool.not_eq_true'] at dC;obtain⟨⟨hj0,hz⟩,af9⟩:=dC;have Ov:=Zx hz;subst Ov;obtain⟨v',cc,f1,p1,cI,jY,kD,rq⟩:=zH h hy bc;have yD:=jY.l_ kk;split at cI
    ·rename_i e1 z1 l1 Av;have mU:=iU cI;obtain⟨dC,x5⟩:=cp mU;simp only[Zp,Qb0] at dC;obtain⟨⟨⟨⟨Og,uZ⟩,jw⟩,LR⟩,VR⟩:=dC;have Uu:=Zx LR;subst Uu;have pV:=Zu uZ;have yH:0<i.size:=Zu jw;have LK:j<l1.length:=Zu VR;rw[Av] at yD;obtain⟨ru,eZ,vs,bE,dh,hp⟩:=yD;obtain⟨hlen,⟨hn,a,hv⟩ | ⟨β',cap,jl,hv,h0,hB,hh,tL,yF,hcs,fK⟩⟩:=bE
     ·omega
     ·have N6:β'=β:=by rw[hv] at hg;simp[bH] at hg;exact hg.2
      subst N6;have sD:l1[j]? = Zz (l1.getD j .undef):=by simp[LK]
      have hold:(l1.getD j .undef).cells.length=z1:=eZ _ (List.mem_of_getElem? sD);have LO:=rq.cells;have Oo:y.cells.toList.length=i.size:=by rw[LO.len,Og]
      have GB:y.cells.size=i.size:=by simpa using Oo
      have VW:=(hp β' hg).2 rfl;have Ap:(j+1)*z1<=l1.length*z1:=Zm z1 LK;rw[Yy] at Ap;have abH:l1.length*z1<=cap*z1:=Zm z1 tL;have dI:=nS (P:=P) (w:=w) hi hh (v:=y) (off:=j*z1+off) GB (by rw[hcs];omega) LO.UO;obtain⟨info,z,a1,a2,a3,a4,a5,a6,a7,a8,a9,_⟩:=bg (eG _ _ ie);have Ot:(rD ei (l1.getD j .undef) off v'.cells).cells=place (l1.getD j .undef).cells off v'.cells:=by
       unfold rD;split
       ·rfl
       ·rename_i rJ;have xC:=C' cI rJ;have Q5:z1=1:=by rw[<-hold,xC];rfl
        have Aq:v'.cells.length=1:=by rw[xC] at pV;simp at pV;omega
        have ho0:off=0:=by rw[xC] at pV;simp at pV;omega
        obtain⟨c,BX⟩:=List.length_eq_one_iff.1 Aq;rw[BX] at LO ⊢;obtain⟨cv,_,_,N9,_⟩:=LO.gY;rw[xC,ho0];simp[place,N9.rY.2.2.1]
      refine⟨_,_,x5,?_⟩;obtain⟨ga,lG⟩:=jY.modify (k:=kk) (b := .c7 e1 z1 (l1.set j (rD ei (l1.getD j .undef) off v'.cells)) Zv) (w':=w.setRow β' (jl.toList.take (j*z1+off)++y.cells.toList++jl.toList.drop (j*z1+off+y.cells.toList.length)).toArray) (p':=p1) (β₀:=β')
       (by rw[Av];trivial) trivial hg rfl rfl rfl (by simp) (fun β gA=>⟨setRow_other w β' β _ gA,rfl⟩) (fun fz=>by omega) (Zd _) (fun q hq=>by rw[VW] at hq;omega)
       (fun hm=>by
        refine⟨ru,fun q hq=> ?_,vs.take (j*z1+off)++y.cells.toList++vs.drop (j*z1+off+y.cells.toList.length),⟨?_,.inr ⟨β',cap,_,hv.trans (by simp),h0,hB,setRow_heap w β' jl _ e1 _ hh,by simpa using tL,yF,?_,?_⟩⟩,?_,fun β mW=> ?_⟩
        ·rcases List.mem_or_eq_of_mem_set hq with hq | rfl
         ·exact eZ q hq
         ·rw[Ot,w6 _ _ _ (by rw[Og];omega),hold]
        ·simp;omega
        ·simp;omega
        ·simp only[List.length_set];rw[xv (by omega) (by simp;omega),fK]
        ·rw[Ah sD eZ Ot (by rw[Og,<-hold];omega)];have:=oU dh (LO) (j*z1+off);exact this.imp fun _ _=>hm.ui
        ·rw[hg] at mW;cases mW;exact⟨by rw[VW];exact Nat.zero_le _,fun _=>VW⟩)
      exact⟨_,p1,g,by simpa [Instr.storeAt,Instr.sureAddr] using dI,ga,kD.trans lG⟩
    ·cases cI
   ·cases hk
  ·rename_i e z l dc;split at hk
   ·rename_i ei ie;obtain⟨dC,bc⟩:=aH hk;simp only[Zp] at dC;obtain⟨hj0,hz⟩:=dC;have Ov:=Zx hz;subst Ov;obtain⟨v',cc,f1,p1,cI,jY,kD,rq⟩:=zH h hy bc;have yD:=jY.l_ kk;split at cI
    ·rename_i e1 z1 l1 Av;have mU:=iU cI;obtain⟨dC,x5⟩:=cp mU;simp only[Zp,Qb0] at dC;obtain⟨⟨⟨⟨Og,uZ⟩,jw⟩,LR⟩,VR⟩:=dC;have Uu:=Zx LR;subst Uu;have pV:=Zu uZ;have yH:0<i.size:=Zu jw;have LK:j<l1.length:=Zu VR;rw[Av] at yD;obtain⟨β',cap,hv,hB,ru,eZ,h0,tL,yF,VW,jl,vs,hh,hcs,hlen,fK,dh⟩:=yD
     ·have N6:β'=β:=by rw[hv] at hg;simp[bH] at hg;exact hg.2
      subst N6;have sD:l1[j]? = Zz (l1.getD j .undef):=by simp[LK]
      have hold:(l1.getD j .undef).cells.length=z1:=eZ _ (List.mem_of_getElem? sD);have LO:=rq.cells;have Oo:y.cells.toList.length=i.size:=by rw[LO.len,Og]
      have GB:y.cells.size=i.size:=by simpa using Oo
      have Ap:(j+1)*z1<=l1.length*z1:=Zm z1 LK;rw[Yy] at Ap;have abH:l1.length*z1<=cap*z1:=Zm z1 tL;have dI:=nS (P:=P) (w:=w) hi hh (v:=y) (off:=j*z1+off) GB (by rw[hcs];omega) LO.UO;obtain⟨info,z,a1,a2,a3,a4,a5,a6,a7,a8,a9,_⟩:=bg (eG _ _ ie);have Ot:(rD ei (l1.getD j .undef) off v'.cells).cells=place (l1.getD j .undef).cells off v'.cells:=by
       unfold rD;split
       ·rfl
       ·rename_i rJ;have xC:=C' cI rJ;have Q5:z1=1:=by rw[<-hold,xC];rfl
        have Aq:v'.cells.length=1:=by rw[xC] at pV;simp at pV;omega
        have ho0:off=0:=by rw[xC] at pV;simp at pV;omega
        obtain⟨c,BX⟩:=List.length_eq_one_iff.1 Aq;rw[BX] at LO ⊢;obtain⟨cv,_,_,N9,_⟩:=LO.gY;rw[xC,ho0];simp[place,N9.rY.2.2.1]
      refine⟨_,_,x5,?_⟩;obtain⟨ga,lG⟩:=jY.modify (k:=kk) (b := .hZ e1 z1 (l1.set j (rD ei (l1.getD j .undef) off v'.cells))) (w':=w.setRow β' (jl.toList.take (j*z1+off)++y.cells.toList++jl.toList.drop (j*z1+off+y.cells.toList.length)).toArray) (p':=p1) (β₀:=β')
       (by rw[Av];trivial) trivial hg rfl rfl rfl (by simp) (fun β gA=>⟨setRow_other w β' β _ gA,rfl⟩) (fun fz=>⟨hB.resolve_right (by omega),rfl⟩) (Zd _) (fun q hq=>by rw[VW] at hq;omega)
       (fun hm=>by
        refine⟨β',cap,hv.trans (by simp),hB,ru,fun q hq=> ?_,h0,by simpa using tL,yF,VW,_,vs.take (j*z1+off)++y.cells.toList++vs.drop (j*z1+off+y.cells.toList.length),setRow_heap w β' jl _ e1 _ hh,?_,?_,?_,?_⟩
        ·rcases List.mem_or_eq_of_mem_set hq with hq | rfl
         ·exact eZ q hq
         ·rw[Ot,w6 _ _ _ (by rw[Og];omega),hold]
        ·simp;omega
        ·simp;omega
        ·simp only[List.length_set];rw[xv (by omega) (by simp;omega),fK]
        ·rw[Ah sD eZ Ot (by rw[Og,<-hold];omega)];have:=oU dh (LO) (j*z1+off);exact this.imp fun _ _=>hm.ui)
      exact⟨_,p1,g,by simpa [Instr.storeAt,Instr.sureAddr] using dI,ga,kD.trans lG⟩
    ·cases cI
   ·cases hk
  ·cases hk
 ·cases hk
end
end Go.Abs
