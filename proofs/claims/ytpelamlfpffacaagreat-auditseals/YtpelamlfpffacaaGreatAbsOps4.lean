/- The abstract interpreter: values, stores, operations, code. Plain definitions; nothing is claimed here. -/
import GoSem.Step
import Derived.Below
import Derived.Deep.AppendSrc
import Derived.Deep.LoopGhost
import Derived.Laws.IdiomStrings
import Derived.Lib.Strings
set_option linter.all false
open Option renaming some→Zz
open Nat renaming beq→Zy,eq_of_beq_eq_true→Zx,le_of_ble_eq_true→Zu,blt→Zj,le_refl→Zd,lt_of_lt_of_le→Zf,mul_le_mul_right→Zm,ble→Zh,add_mul→Yy
open Decidable renaming decide→Zw
open Bool renaming false→Zv,and_eq_true→Zp,true→Zn
open List renaming getElem?_eq_some_iff→Zq,getElem?_take→Zk,flatMap_cons→Zg,getElem?_eq_getElem→Zb,eq_nil_of_length_eq_zero→Yz,getElem?_drop→Yx
abbrev Qa0:=@if_neg
abbrev Qa1:=@if_pos
abbrev Qa2:=@decide_eq_true_eq
abbrev Qa3:=@of_decide_eq_true
abbrev Qa4:=@decide_eq_true
abbrev Qa5:=@decide_eq_false
abbrev Qa6:=@cond_true
abbrev Qa7:=@cond_false
abbrev Qa8:=@and_true
abbrev Qa9:=@true_and
abbrev Qb0:=@eq_of_beq
abbrev Qb1:=@beq_iff_eq
abbrev Qb2:=@beq_self_eq_true
abbrev Qb3:=@Eq.trans
abbrev Qb4:=@decide_true
abbrev Qb5:=@congrArg
namespace Kerb
def pP(n m:Int):Int:=if m<n then m else n
def imax(n m:Int):Int:=if m>n then m else n
end Kerb
namespace Go.Abs
inductive AV where
 | undef
 | int (k:IntKind) (n:Int)
 | u8 (b:UInt8)
 | bool (b:Bool)
 | str (s:List UInt8)
 | bs (l:List UInt8)
 | sl (sz:Nat) (els:List AV)
 | bY
 | row (k:Nat)
 | ptr (k off:Nat)
 | jM (k i sz off:Nat)
 | jV (cs:List AV)
 | mh
 | agg (cs:List AV)
 | bC (vs:List AV)
 | fO (l:List UInt8)
 | aD (els:List AV)
 | ph (k:Nat) (iN:List Nat)
 | pX (k off:Nat)
 | pre (k n:Nat)
 | C5 (k m:Nat)
 | fn (f:Nat)
 | zG (f:Nat) (fs cs:List (Nat×Nat))
 | ze
 | mp (k:Nat)
 | so
 | b_ (k e sz:Nat)
inductive bT where
 | free
 | dead
 | cells (cs:List AV)
 | jJ (l:List UInt8) (iP:Bool)
 | fu (e:Nat) (l:List UInt8) (iP:Bool)
 | c6 (e sz:Nat) (els:List AV) (iP:Bool)
 | oX (str:Bool) (kd:IntKind) (els:List AV)
 | jo (e sz:Nat) (els:List AV)
inductive CT where
 | int (k:IntKind) | u8 | bool | str | eL | sl (sz:Nat) | ptr | other
inductive TK where
 | int (k:IntKind) | u8 | bool | str
 | slice (e:Nat) (byte:Bool)
 | dp (n e:Nat) (byte:Bool)
 | struct (fs:List (Nat×Nat))
 | ptr (e:Nat)
 | map (k e:Nat)
 | other
structure TI where
 size:Nat
 bytes:Nat
 kind:TK
 zero:List AV
 ia:List CT
 Y6:List CT
inductive KC where
 | jr (c:CT)
 | own (key e z:Nat) (byte:Bool)
 | zk (key:Nat) (str:Bool) (kd:IntKind)
inductive iZ where
 | val (slot ty:Nat)
 | fu (slot e:Nat) (iP:Bool)
 | c6 (slot e sz:Nat) (iP:Bool)
 | ptr (slot k off:Nat)
 | cells (k:Nat) (ia:List CT)
 | jJ (k:Nat) (iP:Bool)
 | ph (slot k:Nat) (iN:List Nat)
 | jl (k:Nat) (tW:List KC)
 | rowAt (k:Nat) (h:Bool) (e sz:Nat)
 | ik (slot k e sz:Nat)
abbrev aZ:=List (List AV)
abbrev DK:=Nat->List AV->List (Nat×List AV)->Option (AV×aZ)
structure Fr where
 aT:Nat->AV
 st:Nat->bT
structure FP where
 rd:List Nat
 wr:List Nat
def FP.none:FP:=⟨[],[]⟩
abbrev lH(α:Type):=AV->(Nat->bT)->FP->Option α
def merge(wr:List Nat)(s1 s2:Nat->bT):Nat->bT:=fun x=>if x∈wr then s1 x else s2 x
abbrev wb(A:Type):=(β:Type)->(Nat->bT)->(A->(Nat->bT)->FP->Option β)->Option β
structure Loc {A:Type} (T:wb A) (st:Nat->bT) (a:A) (st':Nat->bT) (fp:FP):Prop where
 nP:∀ x,x ∉ fp.wr->st' x=st x
 run:∀ cF,(∀ x∈fp.rd,cF x=st x)->∀ β k2,T β cF k2=k2 a (merge fp.wr st' cF) fp
structure aj {A:Type} (T:wb A):Prop where
 go:∀ {α:Type} {st:Nat->bT} {k:A->(Nat->bT)->FP->Option α} {r:α},T α st k=Zz r->∃ a st' fp,k a st' fp=Zz r/\Loc T st a st' fp
structure A_ where
 run:(α:Type)->Nat->List AV->(Nat->bT)->lH α->Option α
 loc:∀ kb args,aj (fun β s k=>run β kb args s k)
structure Env where
 ty:Nat->Option TI
 keep:Nat->List iZ
 own:Nat->Bool
 call:DK
 qY:Nat->Option (List AV)
 hand:List Nat
 kb:Nat
 inl:Nat->Option A_
section
variable {α:Type}
def AV.ax(kd:IntKind)(v:AV)(f:Int->Option α):Option α:=match v with | .int k n=>bif k==kd then f n else none | _=>none
def AV.qJ(v:AV)(f:UInt8->Option α):Option α:=match v with | .u8 b=>f b | _=>none
def AV.dS(v:AV)(f:Bool->Option α):Option α:=match v with | .bool b=>f b | _=>none
def AV.pT(v:AV)(f:Bool->Option α)(s:Option α):Option α:=match v with | .bool b=>f b | .bC []=>s | _=>none
def AV.Me(v:AV)(f:Nat->List (Nat×Nat)->List (Nat×Nat)->Option α):Option α:=match v with | .fn n=>f n [] [] | .zG n a b=>f n a b | _=>none
def Q1:List AV->Option (List (Nat×Nat))
 | []=>Zz []
 | .ptr k o::r=>(Q1 r).map ((k,o) :: ·)
 | _=>none
def mi(l:List (Nat×Nat)):List AV:=l.map fun x => .ptr x.1 x.2
def AV.fc(v:AV)(f:List UInt8->Option α):Option α:=match v with | .str s=>f s | _=>none
def AV.dP(v:AV)(f:List UInt8->Option α):Option α:=match v with | .bs l=>f l | _=>none
def AV.iH(sz:Nat)(v:AV)(f:List AV->Option α):Option α:=match v with | .sl z l=>bif Zy z sz then f l else none | _=>none
def AV.dD(v:AV)(f:List AV->Option α):Option α:=match v with | .agg l=>f l | _=>none
def AV.gP(v:AV)(f:List AV->Option α):Option α:=match v with | .bC l=>f l | _=>none
def AV.gB(v:AV)(f:List UInt8->Option α):Option α:=match v with | .fO l=>f l | _=>none
def AV.bw(v:AV)(f:List AV->Option α):Option α:=match v with | .aD l=>f l | _=>none
def az(l:List AV)(f:AV->List AV->Option α):Option α:=match l with | x::r=>f x r | []=>none
def ar(l:List AV)(f:Option α):Option α:=match l with | []=>f | _::_=>none
def aA(b:Bool)(f:Option α):Option α:=cond b f none
def aP(b:Bool)(f g:Option α):Option α:=match b with | true=>f | false=>g
def aJ(l:List (List AV))(f:Option α):Option α:=match l with | []=>f | _::_=>none
def aH(l:List (List AV))(f:List AV->List (List AV)->Option α):Option α:=match l with | x::r=>f x r | []=>none
end
def PP{α:Type}(v:AV)(k:AV->Option α):Option α:=match v with
 | .undef=>k (.undef)
 | .int a b=>k (.int a b)
 | .u8 a=>k (.u8 a)
 | .bool a=>k (.bool a)
 | .str a=>k (.str a)
 | .bs a=>k (.bs a)
 | .sl a b=>k (.sl a b)
 | .bY=>k (.bY)
 | .row a=>k (.row a)
 | .ptr a b=>k (.ptr a b)
 | .jM a b c d=>k (.jM a b c d)
 | .jV a=>k (.jV a)
 | .mh=>k (.mh)
 | .agg a=>k (.agg a)
 | .bC a=>k (.bC a)
 | .fO a=>k (.fO a)
 | .aD a=>k (.aD a)
 | .ph a b=>k (.ph a b)
 | .pX a b=>k (.pX a b)
 | .pre a b=>k (.pre a b)
 | .C5 a b=>k (.C5 a b)
 | .fn a=>k (.fn a)
 | .zG a b c=>k (.zG a b c)
 | .ze=>k (.ze)
 | .mp a=>k (.mp a)
 | .so=>k (.so)
 | .b_ a b c=>k (.b_ a b c)
theorem Na{α:Type}(v:AV)(k:AV->Option α):PP v k=k v:=by cases v<;>rfl
def yS{α:Type}:List AV->(List AV->Option α)->Option α
 | [],k=>k []
 | c::r,k=>PP c fun c'=>yS r fun r'=>k (c'::r')
theorem nZ{α:Type}:∀ (l:List AV) (k:List AV->Option α),yS l k=k l
 | [],k=>rfl
 | c::r,k=>by simp only[yS,Na,nZ]
def PQ{α:Type}(v:AV)(k:AV->Option α):Option α:=match v with
 | .undef=>k (.undef)
 | .int a b=>k (.int a b)
 | .u8 a=>k (.u8 a)
 | .bool a=>k (.bool a)
 | .str a=>k (.str a)
 | .bs a=>k (.bs a)
 | .sl a b=>k (.sl a b)
 | .bY=>k (.bY)
 | .row a=>k (.row a)
 | .ptr a b=>k (.ptr a b)
 | .jM a b c d=>k (.jM a b c d)
 | .jV a=>k (.jV a)
 | .mh=>k (.mh)
 | .agg a=>yS a fun l=>k (.agg l)
 | .bC a=>k (.bC a)
 | .fO a=>k (.fO a)
 | .aD a=>k (.aD a)
 | .ph a b=>k (.ph a b)
 | .pX a b=>k (.pX a b)
 | .pre a b=>k (.pre a b)
 | .C5 a b=>k (.C5 a b)
 | .fn a=>k (.fn a)
 | .zG a b c=>k (.zG a b c)
 | .ze=>k (.ze)
 | .mp a=>k (.mp a)
 | .so=>k (.so)
 | .b_ a b c=>k (.b_ a b c)
theorem Nb{α:Type}(v:AV)(k:AV->Option α):PQ v k=k v:=by cases v<;>first | rfl | exact nZ _ _
def eO:List CT->List AV->Bool
 | [],[]=>Zn
 | .int k::cs,.int k' _::vs=>k==k'&&eO cs vs
 | .u8::cs,.u8 _::vs=>eO cs vs
 | .bool::cs,.bool _::vs=>eO cs vs
 | .str::cs,.str _::vs=>eO cs vs
 | _,_=>Zv
def AV.cells:AV->List AV
 | .agg cs=>cs
 | v=>[v]
def AV.ec:AV->Bool
 | .int .. | .u8 _ | .bool _ | .str _ | .bs _ | .sl .. | .bY | .row _ | .ptr .. | .jM .. | .jV _ | .mh | .ph .. | .pX .. | .pre .. | .C5 .. | .fn _ | .zG .. | .ze | .mp _ | .so | .b_ .. => Zn
 | _=>Zv
def oY(k:IntKind)(n:Int):AV:=match k with | .u8 => .u8 (UInt8.ofNat n.toNat) | k => .int k n
def FW:Value->Option AV
 | .bool b=>Zz (.bool b)
 | .int k n=>match k with
  | .u8=>bif Zw (0<=n)&&Zw (n<256) then Zz (.u8 (UInt8.ofNat n.toNat)) else none
  | k=>Zz (.int k n)
 | .string s=>Zz (.str s.data.toList)
 | .slice none 0 0=>Zz .bY
 | .pointer none=>Zz .mh
 | .map none=>Zz .ze
 | .nilFunc=>Zz .so
 | _=>none
def pS:List Value->Option (List AV)
 | []=>Zz []
 | v::r=>match FW v,pS r with | some a,Zz l=>Zz (a::l) | _,_=>none
def QS(v:Value):Option AV :=
 match v with
 | .agg cs=>(pS cs.toList).map .agg
 | v=>FW v
def ni:AV->AV->Bool
 | .int a n,.int b m=>(a==b)&&(n==m)
 | .str a,.str b=>a==b
 | _,_=>Zv
def gG:AV->AV
 | .bC (k::_)=>k
 | _ => .undef
def uS:AV->AV
 | .bC [_,v]=>v
 | _ => .undef
def _root_.Kerb.qB(x:AV):List AV->Option AV
 | []=>none
 | e::r=>bif ni (gG e) x then Zz (uS e) else Kerb.qB x r
def _root_.Kerb.isM(x:AV)(l:List AV):Bool:=(Kerb.qB x l).isSome
def _root_.Kerb.getM(x:AV)(l:List AV)(d:AV):AV:=(Kerb.qB x l).getD d
def _root_.Kerb.uo(x v:AV):List AV->List AV
 | []=>[.bC [x,v]]
 | e::r=>bif ni (gG e) x then .bC [x,v]::r else e::Kerb.uo x v r
def rp(str:Bool)(kd:IntKind)(v:AV):Bool:=match v with
 | .int k _ => !str&&k==kd
 | .str _=>str
 | _=>Zv
def xZ(i:TI):Option (Bool×IntKind):=match i.kind with
 | .int k=>Zz (Zv,k)
 | .str=>Zz (Zn,.i64)
 | _=>none
section ops
variable {α:Type} (E:Env)
def gJ(c:CT)(v:AV)(k:AV->Option α):Option α :=
 match c with
 | .int kd=>v.ax kd fun n=>k (.int kd n)
 | .u8=>v.qJ fun b=>k (.u8 b)
 | .bool=>v.dS fun b=>k (.bool b)
 | .str=>v.fc fun b=>k (.str b)
 | .eL=>v.dP fun b=>k (.bs b)
 | .sl z=>v.iH z fun b=>k (.sl z b)
 | _=>none
def n9:List CT->List AV->(List AV->Option α)->Option α
 | [],l,k=>ar l (k [])
 | c::cs,l,k=>az l fun x r=>gJ c x fun x'=>n9 cs r fun r'=>k (x'::r')
def dy:TK->Bool
 | .struct _ | .dp .. => Zn
 | _=>Zv
def zeroV(i:TI):AV:=match dy i.kind with
 | true => .agg i.zero
 | false=>i.zero.headD .undef
def norm(i:TI)(v:AV)(k:AV->Option α):Option α :=
 match dy i.kind with
 | true=>v.dD fun cs=>n9 i.ia cs fun kU=>k (.agg kU)
 | false=>match i.ia with
  | [c]=>gJ c v k
  | _=>none
def dd{β:Type}(f:Nat->β)(k:Nat)(b:β):Nat->β:=fun x=>bif Zy x k then b else f x
def Cb(c:CT)(v:AV)(st:Nat->bT)(k:AV->(Nat->bT)->FP->Option α):Option α :=
 match c,v with
 | .eL,.bY=>k (.bs []) st .none
 | .sl z,.bY=>k (.sl z []) st .none
 | _,.row r=>match st r with
  | .fu e l _=>k (.bs l) (dd st r (.fu e l Zn)) ⟨[r],[r]⟩
  | .c6 e z l _=>k (.sl z l) (dd st r (.c6 e z l Zn)) ⟨[r],[r]⟩
  | _=>none
 | _,.int kd n=>k (.int kd n) st .none
 | _,.u8 b=>k (.u8 b) st .none
 | _,.bool b=>k (.bool b) st .none
 | _,.str s=>k (.str s) st .none
 | _,.bs l=>k (.bs l) st .none
 | _,.sl z l=>k (.sl z l) st .none
 | _,.mh=>k .mh st .none
 | _,.jV cs=>k (.jV cs) st .none
 | _,_=>none
def FP.add(a b:FP):FP:=⟨a.rd++b.rd,a.wr++b.wr⟩
def nS:List CT->List AV->(Nat->bT)->(List AV->(Nat->bT)->FP->Option α)->Option α
 | [],[],st,k=>k [] st .none
 | c::cs,v::vs,st,k=>Cb c v st fun a cY f1=>nS cs vs cY fun l cF f2=>k (a::l) cF (f1.add f2)
 | _,_,_,_=>none
def out(i:TI)(v:AV)(st:Nat->bT)(k:AV->(Nat->bT)->FP->Option α):Option α :=
 match dy i.kind,v with
 | true,.agg cs=>nS i.ia cs st fun l st' f=>k (.agg l) st' f
 | false,v=>match i.ia with
  | [c]=>Cb c v st k
  | _=>none
 | _,_=>none
def N3(i:TI)(v:AV)(st:Nat->bT)(k:AV->(Nat->bT)->FP->Option α):Option α :=
 match v with
 | .bY=>k .bY st .none
 | v=>out i v st k
def iQ(x y:AV)(k:IntKind->Int->Int->Option α):Option α :=
 match x,y with
 | .int a n,.int b m=>bif a==b then k a n m else none
 | .u8 n,.u8 m=>k .u8 n.toNat m.toNat
 | _,_=>none
def mU:AV->AV->Option Bool
 | .int a n,.int b m=>bif a==b then Zz (n==m) else none
 | .u8 n,.u8 m=>Zz (n==m)
 | .bool a,.bool b=>Zz (a==b)
 | .str a,.str b=>Zz (a==b)
 | _,_=>none
def Pc(a b:Option Bool):Option Bool:=match a with
 | some x=>match b with
  | some y=>Zz (x&&y)
  | none=>none
 | none=>none
def dY:List AV->List AV->Option Bool
 | [],[]=>Zz Zn
 | [x],[y]=>mU x y
 | x::xs,y::ys=>Pc (mU x y) (dY xs ys)
 | _,_=>none
def sF:AV->Option Int
 | .int _ n=>Zz n
 | .u8 b=>Zz b.toNat
 | _=>none
def nO(op:BinOp)(x y:AV):Option AV :=
 match op with
 | .shl=>match x,sF y with
  | .int k n,Zz m=>aA (Zw (0<=m)) (Zz (.int k (k.wrap (n*2 ^ (min m.toNat k.bits)))))
  | .u8 n,Zz m=>aA (Zw (0<=m)) (Zz (oY .u8 (IntKind.u8.wrap ((n.toNat:Int)*2 ^ (min m.toNat 8)))))
  | _,_=>none
 | .shr=>match x,sF y with
  | .int k n,Zz m=>aA (Zw (0<=m)) (Zz (.int k (n.fdiv (2 ^ (min m.toNat k.bits)))))
  | .u8 n,Zz m=>aA (Zw (0<=m)) (Zz (oY .u8 ((n.toNat:Int).fdiv (2 ^ (min m.toNat 8)))))
  | _,_=>none
 | .add=>match x,y with
  | .str a,.str b=>aA (Zw (a.length+b.length<=4611686018427387904)) (Zz (.str (a++b)))
  | x,y=>iQ x y fun k n m=>Zz (oY k (k.wrap (n+m)))
 | .sub=>iQ x y fun k n m=>Zz (oY k (k.wrap (n-m)))
 | .mul=>iQ x y fun k n m=>Zz (oY k (k.wrap (n*m)))
 | .quo=>iQ x y fun k n m=>aA (!(m==0)) (Zz (oY k (k.wrap (n.tdiv m))))
 | .rem=>iQ x y fun k n m=>aA (!(m==0)) (Zz (oY k (n.tmod m)))
 | .and=>iQ x y fun k n m=>Zz (oY k (k.wrap (BitVec.ofInt k.bits n &&& BitVec.ofInt k.bits m).toNat))
 | .or=>iQ x y fun k n m=>Zz (oY k (k.wrap (BitVec.ofInt k.bits n ||| BitVec.ofInt k.bits m).toNat))
 | .xor=>iQ x y fun k n m=>Zz (oY k (k.wrap (BitVec.ofInt k.bits n ^^^ BitVec.ofInt k.bits m).toNat))
 | .lss=>match x,y with
  | .str a,.str b=>Zz (.bool (Op.bytesLess a b))
  | x,y=>iQ x y fun _ n m=>Zz (.bool (Zw (n<m)))
 | .leq=>match x,y with
  | .str a,.str b=>Zz (.bool (Op.bytesLess a b||a==b))
  | x,y=>iQ x y fun _ n m=>Zz (.bool (Zw (n<=m)))
 | .gtr=>match x,y with
  | .str a,.str b=>Zz (.bool (!(Op.bytesLess a b||a==b)))
  | x,y=>iQ x y fun _ n m=>Zz (.bool (Zw (n>m)))
 | .geq=>match x,y with
  | .str a,.str b=>Zz (.bool !(Op.bytesLess a b))
  | x,y=>iQ x y fun _ n m=>Zz (.bool (Zw (n>=m)))
 | .eql=>match x,y with
  | .agg a,.agg b=>(dY a b).map .bool
  | x,y=>(mU x y).map .bool
 | .neq=>match x,y with
  | .agg a,.agg b=>(dY a b).map fun c => .bool !c
  | x,y=>(mU x y).map fun c => .bool !c
 | _=>none
def Bm(op:BinOp)(x y:AV):Option (Bool×AV) :=
 match op with
 | .shl=>match x,sF y with
  | .int k n,Zz m=>Zz (Zw (0<=m),.int k (k.wrap (n*2 ^ (min m.toNat k.bits))))
  | .u8 n,Zz m=>Zz (Zw (0<=m),oY .u8 (IntKind.u8.wrap ((n.toNat:Int)*2 ^ (min m.toNat 8))))
  | _,_=>none
 | .shr=>match x,sF y with
  | .int k n,Zz m=>Zz (Zw (0<=m),.int k (n.fdiv (2 ^ (min m.toNat k.bits))))
  | .u8 n,Zz m=>Zz (Zw (0<=m),oY .u8 ((n.toNat:Int).fdiv (2 ^ (min m.toNat 8))))
  | _,_=>none
 | .add=>match x,y with
  | .str a,.str b=>Zz (Zw (a.length+b.length<=4611686018427387904),.str (a++b))
  | x,y=>(nO .add x y).map fun v=>(Zn,v)
 | .quo=>iQ x y fun k n m=>Zz (!(m==0),oY k (k.wrap (n.tdiv m)))
 | .rem=>iQ x y fun k n m=>Zz (!(m==0),oY k (n.tmod m))
 | op=>(nO op x y).map fun v=>(Zn,v)
def mm2(mx:Bool)(x y:AV):Option AV :=
 match x,y with
 | .int a n,.int b m=>bif a==b then Zz (.int a (match mx with | true=>Kerb.imax n m | false=>Kerb.pP n m)) else none
 | _,_=>none
def B5(mx:Bool):AV->List AV->Option AV
 | x,[]=>match x with
  | .int k n=>Zz (.int k n)
  | _=>none
 | x,y::r=>(mm2 mx x y).bind fun z=>B5 mx z r
def QO(mx:Bool):List AV->Option AV
 | []=>none
 | x::r=>B5 mx x r
def Ws(op:UnOp)(x:AV):Option AV :=
 match op,x with
 | .not,.bool b=>Zz (.bool !b)
 | .neg,.int k n=>Zz (.int k (k.wrap (0-n)))
 | _,_=>none
def bytesOf(st:Nat->bT)(v:AV)(k:List UInt8->FP->Option α):Option α :=
 match v with
 | .bs l=>k l .none
 | .bY=>k [] .none
 | .row r=>match st r with
  | .fu _ l _=>k l ⟨[r],[]⟩
  | _=>none
 | _=>none
def xG(sz:Nat)(st:Nat->bT)(v:AV)(k:List AV->FP->Option α):Option α :=
 match v with
 | .sl z l=>bif Zy z sz then k l .none else none
 | .bY=>k [] .none
 | .row r=>match st r with
  | .c6 _ z l _=>bif Zy z sz then k l ⟨[r],[]⟩ else none
  | _=>none
 | _=>none
def lenOf(st:Nat->bT)(v:AV)(k:Nat->FP->Option α):Option α :=
 match v with
 | .bs l=>k l.length .none
 | .sl _ l=>k l.length .none
 | .bY=>k 0 .none
 | .ph _ iN=>k iN.length .none
 | .row r=>match st r with
  | .fu _ l _=>k l.length ⟨[r],[]⟩
  | .c6 _ _ l _=>k l.length ⟨[r],[]⟩
  | _=>none
 | .b_ r _ _=>match st r with
  | .jo _ _ l=>k l.length ⟨[r],[]⟩
  | _=>none
 | _=>none
def SB:List AV->Option (List UInt8)
 | []=>Zz []
 | .u8 b::r=>(SB r).map (b :: ·)
 | _=>none
def place(cs:List AV)(off:Nat)(news:List AV):List AV:=cs.take off++news++cs.drop (off+news.length)
def tz:List AV->Nat->List AV->List AV
 | [],_,_=>[]
 | c::cs,0,n=>match n with
  | []=>c::cs
  | x::r=>x::tz cs 0 r
 | c::cs,k+1,n=>c::tz cs k n
def fill(iN:Nat->Option (Nat×Nat)):List (Nat×AV)->List AV->Option (List AV)
 | [],cs=>Zz cs
 | (i,v)::r,cs=>match iN i with
  | some q=>bif v.cells.length==q.2&&Zh (q.1+q.2) cs.length&&v.cells.all AV.ec then fill iN r (tz cs q.1 v.cells) else none
  | none=>none
end ops
def dj(E:Env)(fr:Fr):Operand->Option AV
 | .tmp t=>Zz (fr.aT t)
 | .const v=>QS v
 | .global g=>(E.qY g).map .jV
 | .func f=>Zz (.fn f)
def gC(E:Env)(fr:Fr):List Operand->Option (List AV)
 | []=>Zz []
 | x::r=>match dj E fr x,gC E fr r with | some a,Zz l=>Zz (a::l) | _,_=>none
def iw(E:Env)(fr:Fr):List (Nat×Operand)->Option (List (Nat×AV))
 | []=>Zz []
 | (i,x)::r=>match dj E fr x,iw E fr r with | some a,Zz l=>Zz ((i,a)::l) | _,_=>none
section step
variable {α:Type} (E:Env) (fr:Fr)
def iR(t:Nat)(b:bT)(v:AV)(k:lH α):Option α :=
 match fr.st t with
 | .free=>k v (dd fr.st t b) ⟨[t],[t]⟩
 | _=>none
def loadCells(i:TI)(cs:List AV)(k:AV->Option α):Option α :=
 bif Zh i.size cs.length then
  match dy i.kind with
  | true=>k (.agg (cs.take i.size))
  | false=>match cs with
   | c::_=>k c
   | []=>none
 else none
def kX(i:TI)(a:AV)(k:lH α):Option α :=
 match a with
 | .ptr b off=>match fr.st b with
  | .cells cs=>loadCells i (cs.drop off) fun v=>k v fr.st ⟨[b],[]⟩
  | _=>none
 | .jV cs=>loadCells i cs fun v=>k v fr.st .none
 | .pX b off=>match i.kind with
  | .ptr _=>aA (Zy i.size 1) (k (.ptr b off) fr.st .none)
  | _=>none
 | .jM b j sz off=>match fr.st b with
  | .fu _ l _=>aA (Zj j l.length&&Zy off 0&&Zy sz 1 && !dy i.kind) (k (.u8 (l.getD j 0)) fr.st ⟨[b],[]⟩)
  | .jJ l _=>aA (Zj j l.length&&Zy off 0&&Zy sz 1 && !dy i.kind) (k (.u8 (l.getD j 0)) fr.st ⟨[b],[]⟩)
  | .c6 e z l _=>match E.ty e with
   | some ei=>aA (Zj j l.length&&Zy z sz) (norm ei (l.getD j .undef) fun v=>loadCells i (v.cells.drop off) fun v=>k v fr.st ⟨[b],[]⟩)
   | none=>none
  | .jo e z l=>match E.ty e with
   | some ei=>aA (Zj j l.length&&Zy z sz) (norm ei (l.getD j .undef) fun v=>loadCells i (v.cells.drop off) fun v=>k v fr.st ⟨[b],[]⟩)
   | none=>none
  | _=>none
 | _=>none
def ua(ei:TI)(old:AV)(off:Nat)(news:List AV):AV:=match dy ei.kind with
 | true => .agg (place old.cells off news)
 | false=>news.headD .undef
def ou(i:TI)(a v:AV)(k:lH α):Option α :=
 match a with
 | .ptr b off=>match fr.st b with
  | .cells cs=>bif v.cells.length==i.size&&Zh (off+i.size) cs.length&&v.cells.all AV.ec then yS (tz cs off v.cells) fun l=>k .undef (dd fr.st b (.cells l)) ⟨[b],[b]⟩ else none
  | _=>none
 | .jM b j sz off=>match fr.st b with
  | .fu e l iP=>v.qJ fun x=>aA (Zj j l.length&&Zy off 0&&Zy sz 1&&Zy i.size 1 && !iP) (k .undef (dd fr.st b (.fu e (l.set j x) Zv)) ⟨[b],[b]⟩)
  | .jJ l iP=>v.qJ fun x=>aA (Zj j l.length&&Zy off 0&&Zy sz 1&&Zy i.size 1 && !iP) (k .undef (dd fr.st b (.jJ (l.set j x) Zv)) ⟨[b],[b]⟩)
  | .c6 e z l iP=>match E.ty e with
   | some ei=>aA (Zj j l.length&&Zy z sz && !iP) (out i v fr.st fun v' cY f1=>match cY b with
    | .c6 e1 z1 l1 Zv=>norm ei (l1.getD j .undef) fun old =>
      aA (v'.cells.length==i.size&&Zh (off+i.size) old.cells.length&&Zj 0 i.size&&Zy z1 z&&Zj j l1.length)
       (k .undef (dd cY b (.c6 e1 z1 (l1.set j (ua ei old off v'.cells)) Zv)) (f1.add ⟨[b],[b]⟩))
    | _=>none)
   | none=>none
  | .jo e z l=>match E.ty e with
   | some ei=>aA (Zj j l.length&&Zy z sz) (out i v fr.st fun v' cY f1=>match cY b with
    | .jo e1 z1 l1=>norm ei (l1.getD j .undef) fun old =>
      aA (v'.cells.length==i.size&&Zh (off+i.size) old.cells.length&&Zj 0 i.size&&Zy z1 z&&Zj j l1.length)
       (k .undef (dd cY b (.jo e1 z1 (l1.set j (ua ei old off v'.cells)))) (f1.add ⟨[b],[b]⟩))
    | _=>none)
   | none=>none
  | _=>none
 | _=>none
def oM(q:Nat)(v:AV)(k:lH α):Option α :=
 match v with
 | .ptr b off=>k (.ptr b (off+q)) fr.st .none
 | .jV cs=>k (.jV (cs.drop q)) fr.st .none
 | .jM b j sz off=>k (.jM b j sz (off+q)) fr.st .none
 | _=>none
def s9(i:TI)(f:Nat):Option (Nat×Nat):=match i.kind with | .struct fs=>fs[f]? | _=>none
def Ci:List Nat->Nat->(Nat->Option α)->Option α
 | [],_,_=>none
 | o::r,n,f=>aP (Zy n 0) (f o) (Ci r (n-1) f)
def idx(v:AV):Option Int:=match v with | .int _ n=>Zz n | .u8 b=>Zz b.toNat | _=>none
def eX(i:TI)(x ix:AV)(k:lH α):Option α :=
 match i.kind,x,idx ix with
 | .slice e Zn,x,Zz n=>match x with
  | .bs l=>aA (Zw (0<=n)&&Zw (n<l.length)) (k (.jV [.u8 (l.getD n.toNat 0)]) fr.st .none)
  | .row r=>match fr.st r with
   | .fu _ l _=>aA (Zw (0<=n)&&Zw (n<l.length)) (k (.jM r n.toNat 1 0) fr.st ⟨[r],[]⟩)
   | _=>none
  | _=>none
 | .slice e Zv,x,Zz n=>match E.ty e with
  | some ei=>match x with
   | .sl z l=>aA (Zw (0<=n)&&Zw (n<l.length)&&Zy z ei.size) (norm ei (l.getD n.toNat .undef) fun v=>k (.jV v.cells) fr.st .none)
   | .ph b iN=>aA (Zw (0<=n)&&Zw (n<iN.length)&&Zy ei.size 1) (Ci iN n.toNat fun o=>k (.pX b o) fr.st .none)
   | .row r=>match fr.st r with
    | .c6 _ z l _=>aA (Zw (0<=n)&&Zw (n<l.length)&&Zy z ei.size) (k (.jM r n.toNat z 0) fr.st ⟨[r],[]⟩)
    | _=>none
   | .b_ r _ _=>match fr.st r with
    | .jo _ z l=>aA (Zw (0<=n)&&Zw (n<l.length)&&Zy z ei.size) (k (.jM r n.toNat z 0) fr.st ⟨[r],[]⟩)
    | _=>none
   | _=>none
  | none=>none
 | .dp len e Zn,.ptr b 0,Zz n=>match fr.st b with
  | .jJ l _=>aA (Zw (0<=n)&&Zw (n<l.length)&&Zy l.length len&&Zj 1 len) (k (.jM b n.toNat 1 0) fr.st ⟨[b],[]⟩)
  | .cells _=>match E.ty e with
   | some ei=>aA (Zw (0<=n)&&Zw (n<(len:Int))&&Zj 1 len) (k (.ptr b (0+n.toNat*ei.size)) fr.st ⟨[b],[]⟩)
   | none=>none
  | _=>none
 | .dp len e Zv,.ptr b off,Zz n=>match E.ty e with
  | some ei=>aA (Zw (0<=n)&&Zw (n<(len:Int))&&Zj 1 len) (k (.ptr b (off+n.toNat*ei.size)) fr.st .none)
  | none=>none
 | .dp len e Zv,.jV cs,Zz n=>match E.ty e with
  | some ei=>aA (Zw (0<=n)&&Zw (n<(len:Int))&&Zj 1 len&&Zy ei.size 1&&Zh len cs.length) (norm ei (cs.getD n.toNat .undef) fun v=>k (.jV [v]) fr.st .none)
  | none=>none
 | _,_,_=>none
def xF(i:TI)(x ix:AV)(k:lH α):Option α :=
 match i.kind,x,idx ix with
 | .str,.str l,Zz n=>aA (Zw (0<=n)&&Zw (n<l.length)) (k (.u8 (l.getD n.toNat 0)) fr.st .none)
 | _,_,_=>none
def uH(v:Option AV)(d:Nat):Option Int:=match v with | none=>Zz (d:Int) | some v=>idx v
def vL(i:TI)(x:AV)(lo hi mx:Option AV)(k:lH α):Option α :=
 match mx with
 | some _=>none
 | none=>match i.kind with
  | .str=>x.fc fun l=>match uH lo 0,uH hi l.length with
   | some a,Zz b=>aA (Zw (0<=a)&&Zw (a<=b)&&Zw (b<=l.length)) (k (.str ((l.take b.toNat).drop a.toNat)) fr.st .none)
   | _,_=>none
  | .slice e Zn=>Cb .eL x fr.st fun v st fp=>v.dP fun l=>match uH lo 0,uH hi l.length with
   | some a,Zz b=>aA (Zw (0<=a)&&Zw (a<=b)&&Zw (b<=l.length)) (k (.bs ((l.take b.toNat).drop a.toNat)) st fp)
   | _,_=>none
  | .slice e Zv=>match E.ty e with
   | some ei=>Cb (.sl ei.size) x fr.st fun v st fp=>v.iH ei.size fun l=>match uH lo 0,uH hi l.length with
    | some a,Zz b=>aA (Zw (0<=a)&&Zw (a<=b)&&Zw (b<=l.length)) (k (.sl ei.size ((l.take b.toNat).drop a.toNat)) st fp)
    | _,_=>none
   | none=>none
  | .dp n e Zn=>match x with
   | .ptr b 0=>match fr.st b with
    | .jJ l _=>match uH lo 0,uH hi l.length with
     | some a,Zz c=>aA (Zw (0<=a)&&Zw (a<=c)&&Zw (c<=l.length)&&Zy l.length n) (k (.bs ((l.take c.toNat).drop a.toNat)) (dd fr.st b (.jJ l Zn)) ⟨[b],[b]⟩)
     | _,_=>none
    | _=>none
   | _=>none
  | _=>none
def uP(i:TI)(x:AV)(lo:Option AV)(hi m:AV)(k:lH α):Option α :=
 match i.kind with
 | .slice e Zn=>Cb .eL x fr.st fun v st fp=>v.dP fun l=>match uH lo 0,idx hi,idx m with
  | some a,Zz b,Zz c=>aA (Zw (0<=a)&&Zw (a<=b)&&Zw (b<=c)&&Zw (c<=l.length)) (k (.bs ((l.take b.toNat).drop a.toNat)) st fp)
  | _,_,_=>none
 | .slice e Zv=>match E.ty e,lo,idx hi,idx m with
  | some _,none,Zz b,Zz c=>aA (b==0&&c==0) (match x with
   | .sl _ _=>k .bY fr.st .none
   | .bY=>k .bY fr.st .none
   | .row _=>k .bY fr.st .none
   | _=>none)
  | _,_,_,_=>none
 | _=>none
def uQ(i:TI)(x:AV)(lo hi:Option AV)(k:lH α):Option α :=
 match i.kind,x with
 | .slice _ Zn,.row r=>match fr.st r with
  | .fu _ l p=>match lo,hi with
   | none,Zz h=>match idx h with
    | some b=>aA (Zw (0<=b)&&Zw (b<=l.length)&&Zj 0 l.length && !p) (k (.pre r b.toNat) fr.st ⟨[r],[]⟩)
    | none=>none
   | some a,none=>match idx a with
    | some a=>aA (Zw (0<=a)&&Zw (a<=l.length)&&Zj 0 l.length && !p) (k (.C5 r a.toNat) fr.st ⟨[r],[]⟩)
    | none=>none
   | _,_=>none
  | _=>none
 | _,_=>none
def rU(t:Nat)(ki:TI)(k:lH α):Option α :=
 match xZ ki with
 | some q=>iR fr t (.oX q.1 q.2 []) (.mp t) k
 | none=>none
def qA(ki ei:TI)(m q:AV)(ok:Bool)(k:lH α):Option α :=
 match m with
 | .mp b=>match fr.st b with
  | .oX s kd els=>match xZ ki with
   | some z=>aA ((z.1==s)&&(z.2==kd)&&rp s kd q) (norm ei (Kerb.getM q els (zeroV ei)) fun v=>match ok with
    | true=>k (.bC [v,.bool (Kerb.isM q els)]) fr.st ⟨[b],[]⟩
    | false=>k v fr.st ⟨[b],[]⟩)
   | none=>none
  | _=>none
 | _=>none
def rV(ki ei:TI)(m q x:AV)(k:lH α):Option α :=
 match m with
 | .mp b=>match fr.st b with
  | .oX s kd els=>match xZ ki with
   | some z=>aA ((z.1==s)&&(z.2==kd)&&rp s kd q) (out ei x fr.st fun v cY f1=>match cY b with
    | .oX s1 XG Fm=>aA ((s1==s)&&(XG==kd)) (k .undef (dd cY b (.oX s kd (Kerb.uo q v Fm))) (f1.add ⟨[b],[b]⟩))
    | _=>none)
   | none=>none
  | _=>none
 | _=>none
def rT(s d:TI)(x:AV)(k:lH α):Option α :=
 match d.kind with
 | .int kd=>match idx x with
  | some n=>k (.int kd (kd.wrap n)) fr.st .none
  | none=>none
 | .u8=>match idx x with
  | some n=>k (oY .u8 (IntKind.u8.wrap n)) fr.st .none
  | none=>none
 | .str=>match s.kind with
  | .str=>x.fc fun l=>k (.str l) fr.st .none
  | .slice _ Zn=>bytesOf fr.st x fun l fp=>k (.str l) fr.st fp
  | _=>none
 | .slice _ Zn=>match s.kind with
  | .str=>x.fc fun l=>k (.bs l) fr.st .none
  | _=>none
 | _=>none
def room(n bytes:Nat):Bool:=Zh (n*bytes) 140737488355328&&Zh n 140737488355328
def E4(t e:Nat)(s:AV)(new:List UInt8)(fp:FP)(k:lH α):Option α :=
 match s with
 | .bY=>aA (room new.length 1) (k (.row t) (dd fr.st t (.fu e new Zv)) ⟨t::fp.rd,[t]⟩)
 | .row r=>match fr.st r with
  | .fu e' l p=>aA (Zy e e'&&room (l.length+new.length) 1) (k (.row t) (dd (dd fr.st r .dead) t (.fu e (l++new) p)) ⟨t::r::fp.rd,[t,r]⟩)
  | _=>none
 | _=>none
def JI(t e:Nat)(ei:TI)(s:AV)(new:List AV)(fp:FP)(k:lH α):Option α :=
 match s with
 | .bY=>aA (Zj 0 ei.size&&room new.length ei.bytes) (k (.row t) (dd fr.st t (.c6 e ei.size new Zv)) ⟨t::fp.rd,[t]⟩)
 | .row r=>match fr.st r with
  | .c6 e' z l p=>aA (Zy e e'&&Zy z ei.size&&room (l.length+new.length) ei.bytes) (k (.row t) (dd (dd fr.st r .dead) t (.c6 e ei.size (l++new) p)) ⟨t::r::fp.rd,[t,r]⟩)
  | _=>none
 | _=>none
def MT(t e:Nat)(s:AV)(r m:Nat)(k:lH α):Option α :=
 match s with
 | .pre r' n=>match fr.st r with
  | .fu e' l p=>aA (Zj 0 l.length&&Zy r r'&&Zy e e' && !p&&room (n+(l.length-m)) 1) (k (.row t) (dd (dd fr.st r .dead) t (.fu e (l.take n++l.drop m) Zv)) ⟨[t,r],[t,r]⟩)
  | _=>none
 | _=>none
def kW(t:Nat)(i:TI)(s x:AV)(k:lH α):Option α :=
 match fr.st t with
 | .free=>match i.kind with
  | .slice e Zn=>match x with
   | .str l=>E4 fr t e s l .none k
   | .C5 r m=>MT fr t e s r m k
   | x=>bytesOf fr.st x fun new fp=>E4 fr t e s new fp k
  | .slice e Zv=>match E.ty e with
   | none=>none
   | some ei=>xG ei.size fr.st x fun new fp=>JI fr t e ei s new fp k
  | _=>none
 | _=>none
def o0(ei:TI):List (Nat×AV)->(Nat->bT)->(List (Nat×AV)->(Nat->bT)->FP->Option α)->Option α
 | [],st,k=>k [] st .none
 | (i,v)::r,st,k=>out ei v st fun a cY f1=>o0 ei r cY fun l cF f2=>k ((i,a)::l) cF (f1.add f2)
def gS:Nat->List (Nat×AV)->Option (List AV)
 | _,[]=>Zz []
 | j,(i,v)::r=>bif Zy i j then(gS (j+1) r).map (v :: ·) else none
def Fx:List (Nat×AV)->Option Nat
 | (_,.ptr k _)::_=>Zz k
 | _=>none
def zg(b:Nat):Nat->List (Nat×AV)->Option (List Nat)
 | _,[]=>Zz []
 | j,(i,.ptr k off)::r=>bif Zy i j&&Zy k b then(zg b (j+1) r).map (off :: ·) else none
 | _,_=>none
def Bn(t:Nat)(i:TI)(l c:AV)(k:lH α):Option α :=
 match i.kind,idx l,idx c with
 | .slice e Zn,Zz n,Zz m=>aA (Zw (0<=n)&&Zw (n<=m)&&Zw (m<=140737488355328)) (iR fr t (.fu e (List.replicate n.toNat 0) Zv) (.row t) k)
 | _,_,_=>none
def qz(d:Nat)(i:TI)(len:Nat)(parts:List (Nat×AV))(k:lH α):Option α :=
 match i.kind with
 | .slice e Zn=>match gS 0 parts with
  | some els=>match SB els with
   | some l=>bif Zy parts.length len&&Zh len 16777216&&Zj 0 len then iR fr d (.fu e l Zv) (.row d) k else none
   | none=>none
  | none=>none
 | .slice e Zv=>match E.ty e,gS 0 parts with
  | some ei,Zz _=>bif Zy parts.length len&&Zh (len*ei.size) 16777216&&Zj 0 ei.size&&Zj 0 len then o0 ei parts fr.st fun ps st fp =>
    match gS 0 ps with
    | some els=>bif els.all (fun x=>Zy x.cells.length ei.size) then iR ⟨fr.aT,st⟩ d (.c6 e ei.size els Zv) (.row d) fun v cF f2=>k v cF (fp.add f2) else none
    | none=>none
   else none
  | _,_=>none
 | _=>none
def mW(i:TI)(len:Nat)(parts:List (Nat×AV))(k:lH α):Option α :=
  match i.kind with
  | .slice e byte=>match len with
    | 0=>match parts,E.ty e with
      | [],Zz _=>k .bY fr.st .none
      | _,_=>none
    | _+1=>match Fx parts with
     | some b=>match byte,E.ty e,zg b 0 parts with
      | false,Zz ei,Zz iN=>bif Zy parts.length len&&Zy ei.size 1&&Zh len 16777216 then k (.ph b iN) fr.st .none else none
      | _,_,_=>none
     | none=>match E.ty e,gS 0 parts with
      | some ei,Zz _=>bif Zy parts.length len&&Zh (len*ei.size) 16777216&&Zj 0 ei.size then o0 ei parts fr.st fun ps st fp =>
          match gS 0 ps with
          | some els=>match byte with
            | true=>match SB els with
              | some l=>k (.bs l) st fp
              | none=>none
            | false=>bif els.all (fun x=>Zy x.cells.length ei.size) then k (.sl ei.size els) st fp else none
          | none=>none
        else none
      | _,_=>none
  | _=>none
def ZM(ty:Nat):Option TI:=match E.ty ty with
 | some i=>match i.kind with
  | .ptr e=>E.ty e
  | _=>Zz i
 | none=>none
def eT(f:Nat):Nat->List Nat->List AV->(Nat->bT)->(List AV->List (Nat×Nat×List AV)->(Nat->bT)->FP->Option α)->Option α
 | _,[],[],st,k=>k [] [] st .none
 | j,ty::ll,v::vs,st,k=>match v with
  | .ptr b off=>match st b with
   | .cells cs=>match ZM E ty with
    | some ei=>bif off==0&&ei.size==cs.length then nS ei.ia cs st fun kU cY f1 =>
      eT f (j+1) ll vs cY fun l bl cF f2=>bif bl.any (fun x=>x.2.1==b) then none else k (.ptr j 0::l) ((j,b,kU)::bl) cF (FP.add ⟨b::f1.rd,b::f1.wr⟩ f2)
     else none
    | none=>none
   | _=>none
  | .b_ r e z=>eT f (j+1) ll vs st fun l bl cF f2=>match cF r with
   | .jo e' z' els=>bif Zy e e'&&Zy z z' && !bl.any (fun x=>x.2.1==r) then k (.b_ j e z::l) ((j,r,els)::bl) cF (FP.add ⟨[r],[r]⟩ f2) else none
   | _=>none
  | v=>match E.own (1000000+f*64+j) with
   | true=>match v with
    | .row r=>eT f (j+1) ll vs st fun l bl cF f2=>match cF r with
     | .c6 e z els Zv=>aA (Zj 0 els.length) (bif !bl.any (fun x=>x.2.1==r) then k (.b_ j e z::l) ((j,r,els)::bl) cF (FP.add ⟨[r],[r]⟩ f2) else none)
     | _=>none
    | _=>none
   | false=>match E.ty ty with
    | some i=>N3 i v st fun a cY f1=>eT f (j+1) ll vs cY fun l bl cF f2=>k (a::l) bl cF (f1.add f2)
    | none=>none
 | _,_,_,_,_=>none
def PO(ty:Nat->Option TI):Nat->Nat->List Nat
 | 0,t=>[t]
 | m+1,t=>match ty t with
  | some i=>match i.kind with
   | .struct fs=>fs.flatMap fun f=>PO ty m f.2
   | _=>[t]
  | none=>[t]
def acC(ty:Nat->Option TI):List Nat->Nat->Option (Nat×Nat×TI)
 | [],_=>none
 | t::r,n=>match ty t with
  | some i=>match i.kind with
   | .slice e Zv=>match ty e with
    | some ei=>Zz (n,e,ei)
    | none=>none
   | _=>acC ty r (n+1)
  | none=>none
def Rs(ty:Nat->Option TI)(fs:List (Nat×Nat)):Option (Nat×Nat×TI):=acC ty (fs.flatMap fun f=>PO ty 5 f.2) 0
def ry(t:Nat):Nat->List CT->List AV->(List AV->List AV->Option α)->Option α
 | 0,_::ia,v,k=>az v fun x r=>x.bw fun l=>n9 ia r fun r'=>k (.row t::r') l
 | j+1,c::ia,v,k=>az v fun x r=>gJ c x fun x'=>ry t j ia r fun r' l=>k (x'::r') l
 | _,[],_,_=>none
def Hu(fs:List (Nat×Nat))(t:Nat)(i:TI)(v:AV)(st:Nat->bT)(k:AV->(Nat->bT)->FP->Option α):Option α :=
 match Rs E.ty fs with
 | some (j,e,ei)=>match st t with
  | .free=>v.dD fun cs=>ry t j i.ia cs fun kU l=>k (.agg kU) (dd st t (.c6 e ei.size l Zv)) ⟨[t],[t]⟩
  | _=>none
 | none=>norm i v fun v'=>k v' st .none
def tV(own:Bool)(t:Nat)(i:TI)(v:AV)(st:Nat->bT)(k:AV->(Nat->bT)->FP->Option α):Option α :=
 match own,i.kind with
 | true,.slice e Zn=>match st t with
  | .free=>v.gB fun l=>k (.row t) (dd st t (.fu e l Zv)) ⟨[t],[t]⟩
  | _=>none
 | true,.slice e Zv=>match st t,E.ty e with
  | .free,Zz ei=>v.bw fun l=>k (.row t) (dd st t (.c6 e ei.size l Zv)) ⟨[t],[t]⟩
  | _,_=>none
 | true,.struct fs=>Hu E fs t i v st k
 | _,_=>norm i v fun v'=>k v' st .none
def nf(own:Bool)(t:Nat):List Nat->List AV->(Nat->bT)->(List AV->(Nat->bT)->FP->Option α)->Option α
 | [],l,st,k=>ar l (k [] st .none)
 | ty::ll,l,st,k=>match E.ty ty with
  | some i=>az l fun v r=>tV E own t i v st fun a cY f1=>nf Zv (t+4096) ll r cY fun l' cF f2=>k (a::l') cF (f1.add f2)
  | none=>none
def yd(o v:AV)(k:AV->Option α):Option α :=
 match o with
 | .int kd _=>v.ax kd fun n=>k (.int kd n)
 | .u8 _=>v.qJ fun b=>k (.u8 b)
 | .bool _=>v.dS fun b=>k (.bool b)
 | .str _=>v.fc fun b=>k (.str b)
 | .bs _=>v.dP fun b=>k (.bs b)
 | .sl z _=>v.iH z fun b=>k (.sl z b)
 | _=>k v
def qf:List AV->List AV->(List AV->Option α)->Option α
 | [],l,k=>ar l (k [])
 | o::os,l,k=>az l fun x r=>yd o x fun x'=>qf os r fun r'=>k (x'::r')
def Cu:bT->List AV->bT
 | .c6 e z _ p,cs => .c6 e z cs p
 | .jo e z _,cs => .jo e z cs
 | _,cs => .cells cs
def isRow:bT->Bool
 | .c6 .. => Zn
 | .jo .. => Zn
 | _=>Zv
def nc:List (Nat×Nat×List AV)->aZ->(Nat->bT)->((Nat->bT)->Option α)->Option α
 | [],bs,st,k=>aJ bs (k st)
 | (_,b,old)::r,bs,st,k=>aH bs fun cs Ul=>match isRow (st b) with
  | true=>nc r Ul (dd st b (Cu (st b) cs)) k
  | false=>qf old cs fun kU=>nc r Ul (dd st b (Cu (st b) kU)) k
end step
def uN{α:Type}(E:Env)(fr:Fr)(rts:Nat->Option (List Nat))(t:Nat)(f:Nat)(VX:List Nat)(args:List AV)(k:lH α):Option α :=
 match rts f with
 | none=>none
 | some rt=>eT E f 0 VX args fr.st fun as bl st fp =>
  (E.call f as (bl.map fun x=>(x.1,x.2.2))).bind fun r=>nc bl r.2 st fun cY =>
   match rt with
   | [ty]=>match E.ty ty with
    | some i=>tV E (E.own f) t i r.1 cY fun v cF f2=>k v cF (fp.add f2)
    | none=>none
   | rt=>r.1.gP fun vs=>nf E (E.own f) t rt vs cY fun l cF f2=>k (.bC l) cF (fp.add f2)
end Go.Abs
/- The abstract interpreter: operations dispatched, regions, code, calls. -/
namespace Go.Abs
def eC{σ ρ:Type}(step:σ->Option (σ ⊕ ρ)):Nat->σ->Option ρ
 | 0,_=>none
 | n+1,s=>match step s with
  | some (.inl s')=>eC step n s'
  | some (.inr r)=>Zz r
  | none=>none
open Classical in
noncomputable def bH{σ ρ:Type}(step:σ->Option (σ ⊕ ρ))(s:σ):Option ρ :=
 if h:∃ n r,eC step n s=Zz r then Zz (Classical.choose (Classical.choose_spec h)) else none
def FH:bT->Bool
 | .free=>Zn
 | _=>Zv
def Bi:AV->List Nat
 | .row k=>[k]
 | .ptr k _=>[k]
 | .jM k .. => [k]
 | .ph k _=>[k]
 | .pX k _=>[k]
 | .pre k _=>[k]
 | .C5 k _=>[k]
 | .zG _ fs cs=>fs.map (·.1)++cs.map (·.1)
 | .mp k=>[k]
 | .b_ k .. => [k]
 | _=>[]
def Pk:AV->List Nat
 | .agg cs=>cs.flatMap Bi
 | v=>Bi v
def xy:bT->List Nat
 | .cells cs=>cs.flatMap Bi
 | _=>[]
def reach(st:Nat->bT):Nat->List Nat->List Nat
 | 0,ks=>ks
 | m+1,ks=>ks++reach st m (ks.flatMap fun k=>xy (st k))
theorem xf{s s2:Nat->bT}:∀ {m:Nat} {ks:List Nat},(∀ x∈reach s m ks,s2 x=s x)->reach s2 m ks=reach s m ks
 | 0,ks,h=>rfl
 | m+1,ks,h=>by
  simp only[reach,List.mem_append] at h ⊢;have e:(ks.flatMap fun k=>xy (s2 k))=ks.flatMap fun k=>xy (s k):=by
   have:∀ l:List Nat,(∀ x∈l,s2 x=s x)->(l.flatMap fun k=>xy (s2 k))=l.flatMap fun k=>xy (s k):=by
    intro l;induction l with
    | nil=>intro _;rfl
    | cons y l ih =>
     intro hl;rw[Zg,Zg,hl y (by simp),ih fun x hx=>hl x (by simp[hx])]
   exact this ks fun x hx=>h x (.inl hx)
  rw[e,xf fun x hx=>h x (.inr hx)]
def fk(kb t:Nat):Nat:=match kb with
 | 0=>(t+1)*100000
 | m+1=>(m+1+t+1)*100000
def Mg:Nat->List Nat->Nat
 | b,[]=>b
 | b,[d]=>b+d
 | b,p::r=>Mg (fk b p) r
def sj(kb:Nat):List iZ->List Nat
 | []=>[]
 | .ph t m ds::r=>(match m with
  | 0=>ds.map (fk kb t + ·)
  | 1=>[Mg (fk kb t) ds]
  | _=>(kb+t)::ds.map (kb + ·))++sj kb r
 | .ptr t u d::r=>(fk (fk kb t) u+d)::sj kb r
 | .val d _::r=>d::sj kb r
 | _::r=>sj kb r
def jZ(st:Nat->bT)(vs:List AV)(kb:Nat)(hs:List iZ):List Nat:=reach st 3 (vs.flatMap Pk)++sj kb hs
def LZ(c:CT)(v:AV):Bool:=match c,v with
 | .bool,.bool _=>Zn
 | .int k,.int k' _=>k==k'
 | _,_=>Zv
def BN(c:CT)(v:AV)(fp:FP)(A:List Nat)(st:Nat->bT):Bool:=LZ c v&&fp.rd.all (fun x=>A.contains x)&&fp.wr.all fun x=>A.contains x&&FH (st x)
def D5{α:Type}(run:A_)(c:CT)(hs:List iZ)(kb:Nat)(vs:List AV)(st:Nat->bT)(k:lH α):Option α :=
 (run.run (List AV) kb vs st fun v _ fp=>aA (BN c v fp (jZ st vs kb hs) st) (Zz [v])).bind fun l =>
  az l fun v r=>ar r (gJ c v fun v'=>k v' st ⟨jZ st vs kb hs,[]⟩)
def Bh{α:Type}(h:List iZ)(run:A_)(kb:Nat)(vs:List AV)(st:Nat->bT)(k:lH α):Option α :=
 match h with
 | .cells _ [c]::hs=>D5 run c hs kb vs st k
 | _=>run.run α kb vs st k
section
variable {α:Type} (E:Env) (rts:Nat->Option (List Nat))
def G2(fr:Fr)(i:TI)(v:AV)(k:lH α):Option α :=
 match i.kind with
 | .str=>v.fc fun l=>k (.int .i64 l.length) fr.st .none
 | .slice _ _=>lenOf fr.st v fun n fp=>k (.int .i64 n) fr.st fp
 | _=>none
def Fh(i:TI)(op:BinOp)(a b:AV):Option AV :=
 match a with
 | .agg cs=>match i.Y6 with
  | []=>none
  | c::r=>bif eO (c::r) cs&&dy i.kind then nO op a b else none
 | .bool _=>match i.kind with
  | .bool=>nO op a b
  | _=>none
 | .undef=>none
 | .bC _=>none
 | a=>nO op a b
def Fi(i:TI)(op:BinOp)(a b:AV):Option (Bool×AV) :=
 match a with
 | .agg cs=>match i.Y6 with
  | []=>none
  | c::r=>bif eO (c::r) cs&&dy i.kind then Bm op a b else none
 | .bool _=>match i.kind with
  | .bool=>Bm op a b
  | _=>none
 | .undef=>none
 | .bC _=>none
 | a=>Bm op a b
def xE(i:TI)(fr:Fr)(parts:List (Nat×AV))(k:lH α):Option α :=
 match i.kind with
 | .struct fs=>match fill (fun j=>(fs[j]?).bind fun f=>(E.ty f.2).map fun fi=>(f.1,fi.size)) parts i.zero with
  | some cs=>k (.agg cs) fr.st .none
  | none=>none
 | _=>none
def CZ(d:Option Nat):Bool :=
 match d with
 | some t=>match E.keep (1000000+t) with
  | []=>Zv
  | _::_=>Zn
 | none=>Zv
def E_(f:Nat):List Nat:=(E.keep (7000000+f)).filterMap fun | .val _ ty=>Zz ty | _=>none
def uO(fr:Fr)(o:Oper)(k:lH α):Option α :=
 match o.op with
 | .move x=>(dj E fr x).bind fun v=>k v fr.st .none
 | .assign x=>(dj E fr x).bind fun v=>k v fr.st .none
 | .pick c a b=>(dj E fr c).bind fun v=>v.dS fun t=>aP t ((dj E fr a).bind fun v=>k v fr.st .none) ((dj E fr b).bind fun v=>k v fr.st .none)
 | .alloc e=>(E.ty e).bind fun i=>match o.dst with
  | some t=>match i.kind with
   | .dp _ _ Zn=>(SB i.zero).bind fun l=>iR fr (E.kb+t) (.jJ l Zv) (.ptr (E.kb+t) 0) k
   | _=>iR fr (E.kb+t) (.cells i.zero) (.ptr (E.kb+t) 0) k
  | none=>none
 | .box e x=>(E.ty e).bind fun i=>(dj E fr x).bind fun v=>match o.dst with
  | some t=>bif v.cells.length==i.size&&v.cells.all AV.ec then yS v.cells fun l=>iR fr (E.kb+t) (.cells l) (.ptr (E.kb+t) 0) k else none
  | none=>none
 | .build t parts=>(E.ty t).bind fun i=>(iw E fr parts.toList).bind fun ps=>xE E i fr ps k
 | .buildSlice t len parts=>(E.ty t).bind fun i=>(iw E fr parts.toList).bind fun ps=>match CZ E o.dst,o.dst with
  | true,Zz d=>qz E fr (E.kb+d) i len ps k
  | _,_=>mW E fr i len ps k
 | .makeSlice t l c=>(E.ty t).bind fun i=>(dj E fr l).bind fun n=>(dj E fr c).bind fun m=>match o.dst with
  | some d=>Bn fr (E.kb+d) i n m k
  | none=>none
 | .load t a=>(E.ty t).bind fun i=>(dj E fr a).bind fun v=>kX E fr i v k
 | .store t a x=>(E.ty t).bind fun i=>(dj E fr a).bind fun p=>(dj E fr x).bind fun v=>ou E fr i p v k
 | .nilCheck x=>(dj E fr x).bind fun v=>match v with
  | .ptr a b=>k (.ptr a b) fr.st .none
  | .jV l=>k (.jV l) fr.st .none
  | .jM a b c d=>k (.jM a b c d) fr.st .none
  | _=>none
 | .binOp op t x y _=>(E.ty t).bind fun i=>(dj E fr x).bind fun a=>(dj E fr y).bind fun b=>(Fi i op a b).bind fun x=>aA x.1 (k x.2 fr.st .none)
 | .unOp op _ x=>(dj E fr x).bind fun a=>(Ws op a).bind fun v=>k v fr.st .none
 | .convert s d x=>(E.ty s).bind fun si=>(E.ty d).bind fun di=>(dj E fr x).bind fun v=>rT fr si di v k
 | .slice t x lo hi mx=>(E.ty t).bind fun i=>(dj E fr x).bind fun v =>
   match lo.map (dj E fr),hi.map (dj E fr),mx.map (dj E fr) with
   | some none,_,_=>none
   | _,Zz none,_=>none
   | _,_,Zz none=>none
   | a,Zz (Zz b),Zz (Zz m)=>uP E fr i v (a.bind id) b m k
   | _,none,Zz (Zz _)=>none
   | a,b,none=>match CZ E o.dst with
    | true=>uQ fr i v (a.bind id) (b.bind id) k
    | false=>vL E fr i v (a.bind id) (b.bind id) none k
 | .fieldAddr t x f=>(E.ty t).bind fun i=>(s9 i f).bind fun p=>(dj E fr x).bind fun v=>oM fr p.1 v k
 | .field t x f=>(E.ty t).bind fun i=>(s9 i f).bind fun p=>(E.ty p.2).bind fun fi=>(dj E fr x).bind fun v=>v.dD fun cs=>loadCells fi (cs.drop p.1) fun v=>k v fr.st .none
 | .indexAddr t x ix=>(E.ty t).bind fun i=>(dj E fr x).bind fun v=>(dj E fr ix).bind fun n=>eX E fr i v n k
 | .index t x ix=>(E.ty t).bind fun i=>(dj E fr x).bind fun v=>(dj E fr ix).bind fun n=>xF fr i v n k
 | .makeFunc fn fs cs=>match fn with
  | .func f=>(gC E fr fs.toList).bind fun a=>(gC E fr cs.toList).bind fun b=>(Q1 a).bind fun pa=>(Q1 b).bind fun pb=>k (.zG f pa pb) fr.st .none
  | _=>none
 | .makeMap t r=>match r,o.dst with
  | none,Zz d=>(E.ty t).bind fun i=>match i.kind with
   | .map kt _=>(E.ty kt).bind fun ki=>rU fr (E.kb+d) ki k
   | _=>none
  | _,_=>none
 | .lookup t x q ok=>(E.ty t).bind fun i=>match i.kind with
  | .map kt et=>(E.ty kt).bind fun ki=>(E.ty et).bind fun ei=>(dj E fr x).bind fun m=>(dj E fr q).bind fun v=>qA fr ki ei m v ok k
  | _=>none
 | .mapUpdate t x q y=>(E.ty t).bind fun i=>match i.kind with
  | .map kt et=>(E.ty kt).bind fun ki=>(E.ty et).bind fun ei=>(dj E fr x).bind fun m=>(dj E fr q).bind fun v=>(dj E fr y).bind fun z=>rV fr ki ei m v z k
  | _=>none
 | .extract x j=>(dj E fr x).bind fun v=>v.gP fun vs=>match vs[j]? with
  | some v=>k v fr.st .none
  | none=>none
 | .call c=>match c.callee with
  | .builtin .len=>(gC E fr c.args.toList).bind fun vs=>match vs,c.argTypes.toList with
   | [v],[ty]=>(E.ty ty).bind fun i=>G2 fr i v k
   | _,_=>none
  | .builtin .append=>(gC E fr c.args.toList).bind fun vs=>match vs,c.argTypes.toList,o.dst with
   | [s,x],[ty,tx],Zz t=>(E.ty ty).bind fun i=>(E.ty tx).bind fun xi=>match xi.kind with
    | .slice _ _=>kW E fr (E.kb+t) i s x k
    | .str=>kW E fr (E.kb+t) i s x k
    | _=>none
   | _,_,_=>none
  | .builtin .min=>(gC E fr c.args.toList).bind fun vs=>(QO Zv vs).bind fun v=>k v fr.st .none
  | .builtin .max=>(gC E fr c.args.toList).bind fun vs=>(QO Zn vs).bind fun v=>k v fr.st .none
  | .value (.func f)=>(gC E fr c.args.toList).bind fun vs=>match o.dst with
   | some t=>match E.inl f with
    | some run=>Bh (E.keep (8000000+f)) run (fk E.kb t) vs fr.st k
    | none=>uN E fr rts (E.kb+t) f c.argTypes.toList vs k
   | none=>none
  | .value (.tmp s)=>(dj E fr (.tmp s)).bind fun v=>v.Me fun f fs cs=>(gC E fr c.args.toList).bind fun vs=>match o.dst with
   | some t=>match E.inl f with
    | some run=>Bh (E.keep (8000000+f)) run (fk E.kb t) (mi fs++vs++mi cs) fr.st k
    | none=>uN E fr rts (E.kb+t) f ((E_ E f).take fs.length++c.argTypes.toList++(E_ E f).drop fs.length) (mi fs++vs++mi cs) k
   | none=>none
  | _=>none
 | _=>none
def eQ(fr:Fr)(n:Nat)(d:Option Nat)(v:AV)(st:Nat->bT)(k:Fr->Option α):Option α :=
 match d with
 | some t=>bif Zj t n then PQ v fun v=>k ⟨dd fr.aT t v,st⟩ else none
 | none=>k ⟨fr.aT,st⟩
theorem mG(fr:Fr)(n:Nat)(d:Option Nat)(v:AV)(st:Nat->bT)(k:Fr->Option α):eQ fr n d v st k=(match d with
 | some t=>bif Zj t n then k ⟨dd fr.aT t v,st⟩ else none
 | none=>k ⟨fr.aT,st⟩):=by
 unfold eQ;cases d with
 | none=>rfl
 | some t=>simp only[Nb]
def mA(ops:List Oper)(j:Nat):Option Nat:=(ops[j]?).bind (·.dst)
def fF(n:Nat)(all:List Oper):List Oper->Fr->(Fr->List FP->Option α)->Option α
 | [],fr,k=>k fr []
 | o::os,fr,k =>
  match o.guard with
  | none=>uO E rts fr o fun v st fp=>eQ fr n o.dst v st fun bQ=>fF n all os bQ fun dT m4=>k dT (fp::m4)
  | some (j,want)=>match mA all j with
   | none=>none
   | some g=>(fr.aT g).pT (fun b =>
    aP b
     (match want with
      | true=>uO E rts ⟨dd fr.aT g (.bool Zn),fr.st⟩ o fun v st fp=>eQ ⟨dd fr.aT g (.bool Zn),fr.st⟩ n o.dst v st fun bQ=>fF n all os bQ fun dT m4=>k dT (fp::m4)
      | false=>eQ ⟨dd fr.aT g (.bool Zn),fr.st⟩ n o.dst (.bC []) fr.st fun bQ=>fF n all os bQ fun dT m4=>k dT (.none::m4))
     (match want with
      | false=>uO E rts ⟨dd fr.aT g (.bool Zv),fr.st⟩ o fun v st fp=>eQ ⟨dd fr.aT g (.bool Zv),fr.st⟩ n o.dst v st fun bQ=>fF n all os bQ fun dT m4=>k dT (fp::m4)
      | true=>eQ ⟨dd fr.aT g (.bool Zv),fr.st⟩ n o.dst (.bC []) fr.st fun bQ=>fF n all os bQ fun dT m4=>k dT (.none::m4)))
    (eQ fr n o.dst (.bC []) fr.st fun bQ=>fF n all os bQ fun dT m4=>k dT (.none::m4))
def ins(l:List Nat)(i:Nat):List Nat:=bif l.contains i then l else i::l
def AB(ops:List Oper):List (List Nat) :=
 ops.foldl (fun acc o=>acc++[o.after.toList.foldl (fun l e=>if Region.binds .any e then ins (((acc[e.on]?).getD []).foldl ins l) e.on else l) []]) []
def FP.apart(a b:FP):Bool:=a.wr.all (fun x => !b.rd.contains x && !b.wr.contains x)&&b.wr.all (fun x => !a.rd.contains x)
def slotsOf(o:Oper):List Nat:=o.op.operands.toList.filterMap fun | .tmp t=>Zz t | _=>none
def looks(ops:List Oper)(o:Oper):List Nat :=
 slotsOf o++(match o.guard with | some (g,_)=>(mA ops g).toList | none=>[])
def yL(ops:List Oper)(x y:Oper):Bool :=
 (match x.dst with | some d => !(looks ops y).contains d&&y.dst != Zz d | none=>Zn) &&
 (match y.dst with | some d => !(looks ops x).contains d | none=>Zn)
def D2(ops:List Oper)(bs:List (List Nat))(m4:List FP)(j:Nat)(oj:Oper)(fj:FP):Bool :=
 (List.range j).all fun i=>((bs[j]?).getD []).contains i||(match ops[i]?,m4[i]? with
  | some oi,Zz fi=>yL ops oi oj&&fi.apart fj
  | _,_=>Zv)
def ZN(ops:List Oper):Bool:=(List.range ops.length).all fun j=>match ops[j]? with
 | some o=>o.after.toList.all fun e => !Region.binds .any e||Zj e.on j
 | none=>Zv
def indep(ops:List Oper)(m4:List FP):Bool :=
 let bs:=AB ops
 ZN ops&&(List.range ops.length).all fun j=>match ops[j]?,m4[j]? with
  | some oj,Zz fj=>D2 ops bs m4 j oj fj
  | _,_=>Zv
inductive Ex where
 | normal | ret | exit (id:Nat)
def Ex.DE{ρ:Type}(e:Ex)(a:ρ)(k:Ex->ρ):ρ:=match e with | .normal=>a | .ret=>k .ret | .exit j=>k (.exit j)
def Ex.sS{ρ:Type}(id:Nat)(e:Ex)(k:Ex->ρ):ρ:=match e with | .normal=>k .normal | .ret=>k .ret | .exit j=>bif Zy j id then k .normal else k (.exit j)
def Ex.UP{ρ:Type}(e:Ex)(a:Option ρ):Option ρ:=match e with | .normal=>a | .ret=>none | .exit _=>none
def Ex.PJ{ρ:Type}(e:Ex)(a b:ρ):ρ:=match e with | .normal=>a | .ret=>a | .exit _=>b
def Ex.nq{σ:Type}(e:Ex)(s:σ):σ ⊕ (Ex×σ):=match e with | .normal => .inl s | .ret => .inr (.ret,s) | .exit j => .inr (.exit j,s)
def DP:List Nat->List Nat
 | []=>[]
 | x::r=>bif (DP r).contains x then DP r else x::DP r
def outs:Code->List Nat
 | .seq a b=>outs a++outs b
 | .cond _ a b=>outs a++outs b
 | .block id a=>(outs a).filter fun j => !Zy j id
 | .loop a=>outs a
 | .exit id=>[id]
 | _=>[]
def mZ{ρ:Type}(e:Ex)(a:Option ρ)(f:Nat->Option ρ):Option ρ:=match e with | .normal=>none | .ret=>a | .exit j=>f j
def vS{ρ:Type}:List Nat->Nat->(Ex->Option ρ)->Option ρ
 | [],_,_=>none
 | i::is,j,k=>aP (Zy j i) (k (.exit i)) (vS is j k)
def Ex.out{ρ:Type}(ids:List Nat)(e:Ex)(k:Ex->Option ρ):Option ρ:=mZ e (k .ret) fun j=>vS ids j k
theorem Ex.AS{ρ:Type}{ids:List Nat}{e:Ex}{k:Ex->Option ρ}{r:ρ}(h:Ex.out ids e k=Zz r):k e=Zz r:=by
 unfold Ex.out mZ at h;cases e with
 | normal=>cases h
 | ret=>exact h
 | exit j =>
  simp only at h;induction ids with
  | nil=>cases h
  | cons i is ih =>
   simp only[vS,aP] at h;cases hb:Zy j i with
   | false=>rw[hb] at h;exact ih h
   | true=>rw[hb] at h;rw[Zx hb];exact h
def cC:Code->Nat
 | .region id _ _=>id
 | .seq a _=>cC a
 | .block _ a=>cC a
 | .loop a=>cC a
 | .scope a=>cC a
 | _=>0
def pV(st:Nat->bT)(L:List Nat)(e z:Nat)(byte:Bool)(v:AV)(k:AV->List Nat->Option α):Option α :=
 match byte with
 | true=>match v with
  | .bY=>k (.fO []) L
  | .row r=>match st r with
   | .fu e' l Zv=>aA (Zy e e' && !L.contains r) (k (.fO l) (r::L))
   | _=>none
  | _=>none
 | false=>match v with
  | .bY=>aA (Zj 0 z) (k (.aD []) L)
  | .row r=>match st r with
   | .c6 e' z' l Zv=>aA (Zy e e'&&Zy z z' && !L.contains r) (k (.aD l) (r::L))
   | _=>none
  | _=>none
def AM(st:Nat->bT)(L:List Nat)(s:Bool)(kd:IntKind)(v:AV)(k:AV->List Nat->Option α):Option α :=
 match v with
 | .mp r=>match st r with
  | .oX s' kd' els=>aA ((s==s')&&(kd==kd') && !L.contains r) (k (.aD els) (r::L))
  | _=>none
 | _=>none
def dB:List KC->List AV->(Nat->bT)->List Nat->(List AV->(Nat->bT)->List Nat->FP->Option α)->Option α
 | [],[],st,L,k=>k [] st L .none
 | .jr c::cs,v::vs,st,L,k=>Cb c v st fun a cY fp=>aA (fp.wr.all fun x => !L.contains x) (dB cs vs cY L fun l cF L2 f2=>k (a::l) cF L2 (fp.add f2))
 | .own _ e z b::cs,v::vs,st,L,k=>pV st L e z b v fun a L1=>dB cs vs st L1 fun l cF L2 f2=>k (a::l) cF L2 f2
 | .zk _ s kd::cs,v::vs,st,L,k=>AM st L s kd v fun a L1=>dB cs vs st L1 fun l cF L2 f2=>k (a::l) cF L2 f2
 | _,_,_,_,_=>none
def c5(sl:Nat->AV)(st:Nat->bT)(L:List Nat)(h:iZ)(k:List AV->(Nat->bT)->List Nat->FP->Option α):Option α :=
 match h with
 | .val s ty=>(E.ty ty).bind fun i=>out i (sl s) st fun v cY fp=>aA (fp.wr.all fun x => !L.contains x) (match dy i.kind with
  | true=>k v.cells cY L fp
  | false=>k [v] cY L fp)
 | .fu s e p=>match sl s with
  | .bY=>k [.fO []] st L .none
  | .row r=>match st r with
   | .fu e' l q=>aA (Zy e e'&&(p || !q) && !L.contains r) (k [.fO l] st (r::L) .none)
   | _=>none
  | _=>none
 | .c6 s e z p=>match sl s with
  | .bY=>aA (Zj 0 z) (k [.aD []] st L .none)
  | .row r=>match st r with
   | .c6 e' z' l q=>aA (Zy e e'&&Zy z z'&&(p || !q) && !L.contains r) (k [.aD l] st (r::L) .none)
   | _=>none
  | _=>none
 | .ptr s b off=>match sl s with
  | .ptr b' NV=>aA (Zy b b'&&Zy off NV) (k [] st L .none)
  | _=>none
 | .ph s b iN=>match sl s with
  | .ph b' HV=>aA (Zy b b'&&iN==HV) (k [] st L .none)
  | _=>none
 | .cells b ia=>match st b with
  | .cells cs=>nS ia cs st fun l cY fp=>aA ((fp.wr.all fun x => !L.contains x) && !L.contains b) (k l cY (b::L) fp)
  | _=>none
 | .jJ b p=>match st b with
  | .jJ l q=>aA ((p || !q) && !L.contains b) (k [.bs l] st (b::L) .none)
  | _=>none
 | .jl b tW=>match st b with
  | .cells cs=>dB tW cs st L fun l cY L1 f1=>aA (!L1.contains b) (k l cY (b::L1) f1)
  | _=>none
 | .rowAt b h e z=>match h with
  | true=>match st b with
   | .jo e' z' l=>aA (Zy e e'&&Zy z z' && !L.contains b) (k [.aD l] st (b::L) .none)
   | _=>none
  | false=>match st b with
   | .c6 e' z' l q=>aA (Zy e e'&&Zy z z' && !q && !L.contains b) (k [.aD l] st (b::L) .none)
   | _=>none
 | .ik s b e z=>match sl s with
  | .b_ b' e' z'=>aA (Zy b b'&&Zy e e'&&Zy z z') (k [] st L .none)
  | _=>none
def dO(sl:Nat->AV):List iZ->(Nat->bT)->List Nat->(List AV->(Nat->bT)->List Nat->FP->Option α)->Option α
 | [],st,L,k=>k [] st L .none
 | h::hs,st,L,k=>c5 E sl st L h fun l cY L1 f1=>dO sl hs cY L1 fun r cF L2 f2=>k (l++r) cF L2 (f1.add f2)
def collect(fr:Fr)(hs:List iZ)(k:List AV->Option α):Option α:=dO E fr.aT hs fr.st [] fun l _ _ _=>k l
def oh:List CT->List AV->(List AV->List AV->Option α)->Option α
 | [],l,k=>k [] l
 | c::cs,l,k=>az l fun x r=>gJ c x fun x'=>oh cs r fun a b=>k (x'::a) b
def fresh(st:Nat->bT)(b:Nat)(k:Option α):Option α:=match st b with
 | .free=>k
 | _=>none
def n6(st:Nat->bT)(b:Nat)(k:Option α):Option α:=match st b with
 | .free=>k
 | .dead=>k
 | _=>none
def dw:List KC->List AV->Fr->(List AV->List AV->Fr->Option α)->Option α
 | [],l,fr,k=>k [] l fr
 | .jr c::cs,l,fr,k=>az l fun x r=>gJ c x fun x'=>dw cs r fr fun a b dT=>k (x'::a) b dT
 | .own t e z b::cs,l,fr,k=>az l fun x r=>match b with
  | true=>x.gB fun y=>fresh fr.st t (dw cs r ⟨fr.aT,dd fr.st t (.fu e y Zv)⟩ fun a b dT=>k (.row t::a) b dT)
  | false=>x.bw fun y=>fresh fr.st t (dw cs r ⟨fr.aT,dd fr.st t (.c6 e z y Zv)⟩ fun a b dT=>k (.row t::a) b dT)
 | .zk t s kd::cs,l,fr,k=>az l fun x r=>x.bw fun y=>fresh fr.st t (dw cs r ⟨fr.aT,dd fr.st t (.oX s kd y)⟩ fun a b dT=>k (.mp t::a) b dT)
def restore:List iZ->List AV->Fr->(Fr->Option α)->Option α
 | [],l,fr,k=>ar l (k fr)
 | h::hs,l,fr,k =>
  match h with
  | .val s ty=>(E.ty ty).bind fun i=>match dy i.kind with
   | true=>oh i.ia l fun cs r=>restore hs r ⟨dd fr.aT s (.agg cs),fr.st⟩ k
   | false=>match i.ia with
    | [c]=>az l fun x r=>gJ c x fun x'=>restore hs r ⟨dd fr.aT s x',fr.st⟩ k
    | _=>none
  | .fu s e p=>az l fun x r=>x.gB fun b=>fresh fr.st (8192+s) (restore hs r ⟨dd fr.aT s (.row (8192+s)),dd fr.st (8192+s) (.fu e b p)⟩ k)
  | .c6 s e z p=>az l fun x r=>x.bw fun b=>fresh fr.st (8192+s) (restore hs r ⟨dd fr.aT s (.row (8192+s)),dd fr.st (8192+s) (.c6 e z b p)⟩ k)
  | .ptr s b off=>match fr.st b with
   | .cells _=>restore hs l ⟨dd fr.aT s (.ptr b off),fr.st⟩ k
   | .jJ _ _=>restore hs l ⟨dd fr.aT s (.ptr b off),fr.st⟩ k
   | _=>none
  | .ph s b iN=>match fr.st b with
   | .cells _=>restore hs l ⟨dd fr.aT s (.ph b iN),fr.st⟩ k
   | _=>none
  | .cells b ia=>oh ia l fun cs r=>n6 fr.st b (restore hs r ⟨fr.aT,dd fr.st b (.cells cs)⟩ k)
  | .jJ b p=>az l fun x r=>x.dP fun c=>n6 fr.st b (restore hs r ⟨fr.aT,dd fr.st b (.jJ c p)⟩ k)
  | .jl b tW=>dw tW l fr fun cs r dT=>n6 dT.st b (restore hs r ⟨dT.aT,dd dT.st b (.cells cs)⟩ k)
  | .rowAt b h e z=>az l fun x r=>x.bw fun y=>n6 fr.st b (match h with
   | true=>restore hs r ⟨fr.aT,dd fr.st b (.jo e z y)⟩ k
   | false=>restore hs r ⟨fr.aT,dd fr.st b (.c6 e z y Zv)⟩ k)
  | .ik s b e z=>match fr.st b with
   | .jo .. => restore hs l ⟨dd fr.aT s (.b_ b e z),fr.st⟩ k
   | _=>none
def nW:Fr:=⟨fun _ => .undef,fun k=>bif E.hand.contains k then .dead else .free⟩
end
noncomputable def exec(E:Env)(rts:Nat->Option (List Nat))(n:Nat):Code->(α:Type)->Fr->(Ex->Fr->Option α)->Option α
 | .skip,_,fr,k=>k .normal fr
 | .label _,_,fr,k=>k .normal fr
 | .region id ops draw,_,fr,k=>match E.keep (2000000+id) with
  | []=>fF E rts n ops.toList ops.toList fr fun bQ m4=>aA (!draw||indep ops.toList m4) (k .normal bQ)
  | h::hs=>(fF E rts n ops.toList ops.toList fr fun bQ m4=>aA (!draw||indep ops.toList m4) (collect E bQ (h::hs) Zz)).bind fun l=>restore E (h::hs) l (nW E) fun bQ=>k .normal bQ
 | .seq a b,α,fr,k=>exec E rts n a α fr fun e bQ=>e.DE (exec E rts n b α bQ k) fun e=>k e bQ
 | .cond c a b,α,fr,k=>match E.keep (3000000+cC a) with
  | []=>(dj E fr c).bind fun v=>v.dS fun t=>aP t (exec E rts n a α fr k) (exec E rts n b α fr k)
  | h::hs=>((dj E fr c).bind fun v=>v.dS fun t=>aP t (exec E rts n a (List AV) fr fun e bQ=>e.UP (collect E bQ (h::hs) Zz)) (exec E rts n b (List AV) fr fun e bQ=>e.UP (collect E bQ (h::hs) Zz))).bind fun l=>restore E (h::hs) l (nW E) fun bQ=>k .normal bQ
 | .block id a,α,fr,k=>exec E rts n a α fr fun e bQ=>e.sS id fun e=>k e bQ
 | .loop a,_,fr,k =>
  collect E fr (E.keep (cC a)) fun OX =>
   (bH (fun st=>restore E (E.keep (cC a)) st (nW E) fun Jx=>exec E rts n a (List AV ⊕ (Ex×List AV)) Jx fun e bQ =>
     collect E bQ (E.keep (cC a)) fun st'=>Zz (e.nq st')) OX).bind fun r=>restore E (E.keep (cC a)) r.2 (nW E) fun bQ=>Ex.out (DP (outs a)) r.1 fun e=>k e bQ
 | .exit id,_,fr,k=>k (.exit id) fr
 | .ret,_,fr,k=>k .ret fr
 | _,_,_,_=>none
def hU(args:List AV)(j:Nat):Option (Nat×Nat):=match args[j]? with
 | some (.b_ _ e z)=>Zz (e,z)
 | _=>none
def Fv(q:Option (Nat×Nat))(cs:List AV):bT:=match q with
 | some q => .jo q.1 q.2 cs
 | none => .cells cs
def Te:Nat->List AV->Bool
 | _,[]=>Zn
 | j,a::r=>(match a with | .b_ k _ _=>Zy k j | .ptr k _=>Zy k j | _=>Zn)&&Te (j+1) r
def entry:Nat->List AV->List (Nat×List AV)->Fr
 | _,args,cw=>⟨fun i=>(args[i]?).getD .undef,fun b=>match cw.find? (fun x=>Zy x.1 b) with | some x=>Fv (hU args b) x.2 | none => .free⟩
section
variable {α:Type} (E:Env)
def PN(fs:List (Nat×Nat))(i:TI)(st:Nat->bT)(L:List Nat)(v:AV)(k:AV->(Nat->bT)->List Nat->Option α):Option α :=
 match Rs E.ty fs with
 | some (j,e,ei)=>match v with
  | .agg cs=>match cs[j]? with
   | some (.row r)=>match st r with
    | .c6 e' z l Zv=>aA (Zy e e'&&Zy z ei.size && !L.contains r) (nS (i.ia.set j .bool) (cs.set j (.bool Zv)) st fun a cY fp=>aA (fp.wr.all fun x => !(r::L).contains x) (k (.agg (a.set j (.aD l))) cY (r::L)))
    | _=>none
   | _=>none
  | _=>none
 | none=>out i v st fun a cY fp=>aA (fp.wr.all fun x => !L.contains x) (k a cY L)
def Ga(i:TI)(st:Nat->bT)(L:List Nat)(own:Bool)(v:AV)(k:AV->(Nat->bT)->List Nat->Option α):Option α :=
 match own with
 | false=>out i v st fun a cY fp=>aA (fp.wr.all fun x => !L.contains x) (k a cY L)
 | true=>match i.kind with
  | .slice e Zn=>match v with
   | .bY=>k (.fO []) st L
   | .row r=>match st r with
    | .fu e' l Zv=>aA (Zy e e' && !L.contains r) (k (.fO l) st (r::L))
    | _=>none
   | _=>none
  | .slice e Zv=>match E.ty e with
   | none=>none
   | some ei=>match v with
    | .bY=>aA (Zj 0 ei.size) (k (.aD []) st L)
    | .row r=>match st r with
     | .c6 e' z l Zv=>aA (Zy e e'&&Zy z ei.size && !L.contains r) (k (.aD l) st (r::L))
     | _=>none
    | _=>none
  | .struct fs=>PN E fs i st L v k
  | _=>out i v st fun a cY fp=>aA (fp.wr.all fun x => !L.contains x) (k a cY L)
def KP(sl:Nat->AV)(st:Nat->bT)(L:List Nat)(r:ResultVar)(ty:Nat)(own:Bool)(k:AV->(Nat->bT)->List Nat->Option α):Option α :=
 (E.ty ty).bind fun i=>match r with
  | .tmp t=>Ga E i st L own (sl t) k
  | .cell a t=>(E.ty t).bind fun ti=>kX E ⟨sl,st⟩ ti (sl a) fun v _ _=>Ga E i st L own v k
def tN(sl:Nat->AV):List ResultVar->List Nat->(Nat->bT)->List Nat->Bool->(List AV->(Nat->bT)->List Nat->Option α)->Option α
 | [],[],st,L,_,k=>k [] st L
 | r::rs,ty::ll,st,L,own,k=>KP E sl st L r ty own fun v cY L1=>tN sl rs ll cY L1 Zv fun l cF L2=>k (v::l) cF L2
 | _,_,_,_,_,_=>none
def pU(as:List AV):List (Nat×List AV)->List Nat->(Nat->bT)->List Nat->(aZ->Option α)->Option α
 | [],_,_,_,k=>k []
 | (b,_)::r,ll,st,L,k=>match st b,(ll[b]?).bind E.ty with
  | .cells cs,Zz { kind := .ptr e,.. }=>(E.ty e).bind fun ei=>nS ei.ia cs st fun l cY fp=>aA (fp.wr.all fun x => !L.contains x) (pU as r ll cY L fun bs=>k (l::bs))
  | .jo e z els,_=>match hU as b with
   | some q=>aA (Zy e q.1&&Zy z q.2) (pU as r ll st L fun bs=>k (els::bs))
   | none=>none
  | _,_=>none
end
noncomputable def tP(E:Env)(rts:Nat->Option (List Nat))(own:Bool)(fn:Func)(args:List AV)(cw:List (Nat×List AV))(hand:List Nat):Option (AV×aZ) :=
 match fn.body with
 | none=>none
 | some c=>aA (Zh args.length fn.ntmps&&Te 0 args) (exec { E with hand:=hand } rts fn.ntmps c (AV×aZ) (entry 0 args cw) fun e fr=>e.PJ (tN E fr.aT fn.results.toList fn.resultTypes.toList fr.st [] own fun vs st L=>pU E args cw fn.params.toList st L fun bs =>
   match vs with
   | [v]=>Zz (v,bs)
   | vs=>Zz (.bC vs,bs)) none)
noncomputable def vp(E:Env)(rts:Nat->Option (List Nat))(own:Bool)(fn:Func)(args:List AV)(cw:List (Nat×List AV)):Option (AV×aZ):=tP E rts own fn args cw (cw.map (·.1))
end Go.Abs
/- What follows from an eliminator's having a result. -/
namespace Go.Abs
theorem mC{α:Type}{c:CT}{v:AV}{k:AV->Option α}{r:α}(h:gJ c v k=Zz r):k v=Zz r:=by
 unfold gJ at h;split at h
 ·rename_i kd;unfold AV.ax at h;split at h
  ·rename_i _ k' n;cases he:(k'==kd) with
   | false=>rw[he] at h;cases h
   | true =>
    have:k'=kd:=by simpa using he
    subst this;rw[he] at h;exact h
  ·cases h
 ·unfold AV.qJ at h;split at h<;>first | exact h | cases h
 ·unfold AV.dS at h;split at h<;>first | exact h | cases h
 ·unfold AV.fc at h;split at h<;>first | exact h | cases h
 ·unfold AV.dP at h;split at h<;>first | exact h | cases h
 ·rename_i z;unfold AV.iH at h;split at h
  ·rename_i _ z' l;cases he:Zy z' z with
   | false=>rw[he] at h;cases h
   | true =>
    have:=Zx he;subst this;rw[he] at h;exact h
  ·cases h
 ·cases h
theorem gK{α:Type}{l:List AV}{f:AV->List AV->Option α}{r:α}(h:az l f=Zz r):∃ x t,l=x::t/\f x t=Zz r:=by
 unfold az at h;split at h
 ·exact⟨_,_,rfl,h⟩
 ·cases h
theorem oa{α:Type}{l:List AV}{f:Option α}{r:α}(h:ar l f=Zz r):l=[]/\f=Zz r:=by
 unfold ar at h;split at h
 ·exact⟨rfl,h⟩
 ·cases h
theorem w_{α:Type}:∀ {cs:List CT} {l:List AV} {k:List AV->Option α} {r:α},n9 cs l k=Zz r->k l=Zz r
 | [],l,k,r,h=>by obtain⟨rfl,h⟩:=oa h;exact h
 | c::cs,l,k,r,h=>by
  simp only[n9] at h;obtain⟨x,t,rfl,h1⟩:=gK h;exact w_ (k:=fun r'=>k (x::r')) (mC h1)
theorem vP{α:Type}{v:AV}{f:List AV->Option α}{r:α}(h:v.dD f=Zz r):∃ l,v = .agg l/\f l=Zz r:=by
 unfold AV.dD at h;split at h
 ·exact⟨_,rfl,h⟩
 ·cases h
theorem Ek{α:Type}{v:AV}{f:List AV->Option α}{r:α}(h:v.gP f=Zz r):∃ l,v = .bC l/\f l=Zz r:=by
 unfold AV.gP at h;split at h
 ·exact⟨_,rfl,h⟩
 ·cases h
theorem vR{α:Type}{v:AV}{f:List UInt8->Option α}{r:α}(h:v.fc f=Zz r):∃ l,v = .str l/\f l=Zz r:=by
 unfold AV.fc at h;split at h
 ·exact⟨_,rfl,h⟩
 ·cases h
theorem B_{α:Type}{v:AV}{f:List UInt8->Option α}{r:α}(h:v.dP f=Zz r):∃ l,v = .bs l/\f l=Zz r:=by
 unfold AV.dP at h;split at h
 ·exact⟨_,rfl,h⟩
 ·cases h
theorem vk{α:Type}{v:AV}{f:Bool->Option α}{s:Option α}{r:α}(h:v.pT f s=Zz r):(∃ l,v = .bool l/\f l=Zz r)\/(v = .bC []/\s=Zz r):=by
 unfold AV.pT at h;split at h
 ·exact .inl ⟨_,rfl,h⟩
 ·exact .inr ⟨rfl,h⟩
 ·cases h
theorem NY{α:Type}{v:AV}{f:Nat->List (Nat×Nat)->List (Nat×Nat)->Option α}{r:α}(h:v.Me f=Zz r):(∃ n,v = .fn n/\f n [] []=Zz r)\/∃ n a b,v = .zG n a b/\f n a b=Zz r:=by
 unfold AV.Me at h;split at h
 ·exact .inl ⟨_,rfl,h⟩
 ·exact .inr ⟨_,_,_,rfl,h⟩
 ·cases h
theorem tv{α:Type}{v:AV}{f:Bool->Option α}{r:α}(h:v.dS f=Zz r):∃ l,v = .bool l/\f l=Zz r:=by
 unfold AV.dS at h;split at h
 ·exact⟨_,rfl,h⟩
 ·cases h
theorem xc{α:Type}{v:AV}{f:List UInt8->Option α}{r:α}(h:v.gB f=Zz r):∃ l,v = .fO l/\f l=Zz r:=by
 unfold AV.gB at h;split at h
 ·exact⟨_,rfl,h⟩
 ·cases h
theorem qI{α:Type}{v:AV}{f:List AV->Option α}{r:α}(h:v.bw f=Zz r):∃ l,v = .aD l/\f l=Zz r:=by
 unfold AV.bw at h;split at h
 ·exact⟨_,rfl,h⟩
 ·cases h
theorem H2{α:Type}{v:AV}{z:Nat}{f:List AV->Option α}{r:α}(h:v.iH z f=Zz r):∃ l,v = .sl z l/\f l=Zz r:=by
 unfold AV.iH at h;split at h
 ·rename_i z' l;cases he:Zy z' z with
  | false=>rw[he] at h;cases h
  | true =>
   have:=Zx he;subst this;rw[he] at h;exact⟨l,rfl,h⟩
 ·cases h
theorem j6{α:Type}{i:TI}{v:AV}{k:AV->Option α}{r:α}(h:norm i v k=Zz r):k v=Zz r:=by
 unfold norm at h;split at h
 ·obtain⟨l,rfl,h⟩:=vP h;exact w_ h
 ·split at h
  ·exact mC h
  ·cases h
theorem aI{α:Type}{b:Bool}{f:Option α}{r:α}(h:aA b f=Zz r):b=Zn/\f=Zz r:=by
 cases b
 ·cases h
 ·exact⟨rfl,h⟩
theorem dc{α:Type}{b:Bool}{f:Option α}{r:α}(h:(bif b then f else none)=Zz r):b=Zn/\f=Zz r:=by
 cases b
 ·cases h
 ·exact⟨rfl,h⟩
theorem Ca{α:Type}{l:aZ}{f:Option α}{r:α}(h:aJ l f=Zz r):l=[]/\f=Zz r:=by
 unfold aJ at h;split at h
 ·exact⟨rfl,h⟩
 ·cases h
theorem zS{α:Type}{l:aZ}{f:List AV->aZ->Option α}{r:α}(h:aH l f=Zz r):∃ x t,l=x::t/\f x t=Zz r:=by
 unfold aH at h;split at h
 ·exact⟨_,_,rfl,h⟩
 ·cases h
theorem FV{α:Type}{o v:AV}{k:AV->Option α}{r:α}(h:yd o v k=Zz r):k v=Zz r/\∀ (β:Type) (k2:AV->Option β),yd o v k2=k2 v:=by
 cases o<;>simp only[yd] at h ⊢;case int kd n =>
  cases v<;>simp only[AV.ax] at h ⊢ <;> try (cases h;done)
  rename_i k' m;cases he:(k'==kd) with
  | false=>rw[he] at h;cases h
  | true =>
   have:k'=kd:=by simpa using he
   subst this;rw[he] at h;exact⟨h,fun _ _=>rfl⟩
 case u8 b=>cases v<;>simp only[AV.qJ] at h ⊢ <;> first | (cases h;done) | exact⟨h,fun _ _=>trivial⟩
 case bool b=>cases v<;>simp only[AV.dS] at h ⊢ <;> first | (cases h;done) | exact⟨h,fun _ _=>trivial⟩
 case str b=>cases v<;>simp only[AV.fc] at h ⊢ <;> first | (cases h;done) | exact⟨h,fun _ _=>trivial⟩
 case bs b=>cases v<;>simp only[AV.dP] at h ⊢ <;> first | (cases h;done) | exact⟨h,fun _ _=>trivial⟩
 case sl z b =>
  cases v<;>simp only[AV.iH] at h ⊢ <;> try (cases h;done)
  rename_i z' l;cases he:Zy z' z with
  | false=>rw[he] at h;cases h
  | true =>
   have:=Zx he;subst this;rw[he] at h;exact⟨h,fun _ _=>rfl⟩
 all_goals exact⟨h,fun _ _=>trivial⟩
theorem rI{α:Type}:∀ {os l:List AV} {k:List AV->Option α} {r:α},qf os l k=Zz r->k l=Zz r/\os.length=l.length/\∀ (β:Type) (k2:List AV->Option β),qf os l k2=k2 l
 | [],l,k,r,h=>by obtain⟨rfl,h⟩:=oa h;exact⟨h,rfl,fun _ _=>rfl⟩
 | o::os,l,k,r,h=>by
  simp only[qf] at h;obtain⟨x,t,rfl,h1⟩:=gK h;obtain⟨h2,d2⟩:=FV h1;obtain⟨h3,e3,d3⟩:=rI (k:=fun r'=>k (x::r')) h2;exact⟨h3,by simp[e3],fun β k2=>by simp only[qf,az];rw[d2,d3]⟩
theorem Ep{α:Type}:∀ {l:List Nat} {n:Nat} {f:Nat->Option α} {r:α},Ci l n f=Zz r->∃ o,l[n]? = Zz o/\f o=Zz r
 | [],n,f,r,h=>by cases h
 | o::l,n,f,r,h=>by
  simp only[Ci,aP] at h;cases n with
  | zero=>exact⟨o,rfl,h⟩
  | succ n =>
   have hb:Zy (n+1) 0=Zv:=rfl;rw[hb] at h;obtain⟨o',h1,h2⟩:=Ep h;exact⟨o',by simpa using h1,h2⟩
theorem wO{op:BinOp}{x y v:AV}(h:Bm op x y=Zz (Zn,v)):nO op x y=Zz v:=by
 have abm:∀ {o:Option AV},(o.map fun v=>(Zn,v))=Zz (Zn,v)->o=Zz v:=fun {o} h=>by
  cases o with
  | none=>cases h
  | some w=>cases h;rfl
 have abb:∀ {f:IntKind->Int->Int->Bool} {gg:IntKind->Int->Int->AV},iQ x y (fun k n m=>Zz (f k n m,gg k n m))=Zz (Zn,v)->iQ x y (fun k n m=>aA (f k n m) (Zz (gg k n m)))=Zz v:=by
  intro f gg h;unfold iQ at h ⊢;split at h
  ·obtain⟨hb,h⟩:=dc h;rw[hb];simp only[Option.some.injEq,Prod.mk.injEq] at h;simp only[h.1,h.2,aA,Qa6]
  ·simp only[Option.some.injEq,Prod.mk.injEq] at h;simp only[h.1,h.2,aA,Qa6]
  ·cases h
 cases op<;>simp only[Bm] at h<;>first | exact abm h | exact abb h | skip
 ·split at h
  ·simp only[Option.some.injEq,Prod.mk.injEq] at h;simp only[nO,h.1,h.2,aA,Qa6]
  ·exact abm h
 all_goals
  split at h
  ·rename_i hm;simp only[Option.some.injEq,Prod.mk.injEq] at h;simp only[nO,hm,h.1,h.2,aA,Qa6]
  ·rename_i hm;simp only[Option.some.injEq,Prod.mk.injEq] at h;simp only[nO,hm,h.1,h.2,aA,Qa6]
  ·cases h
theorem G1{i:TI}{op:BinOp}{x y v:AV}(h:Fi i op x y=Zz (Zn,v)):Fh i op x y=Zz v:=by
 cases x<;>simp only[Fi,Fh] at h ⊢ <;> try (first | exact wO h | (cases h;done))
 ·cases hk:i.kind<;>rw[hk] at h<;>simp only at h ⊢ <;> first | exact wO h | (cases h;done)
 ·cases he:i.Y6 with
  | nil=>rw[he] at h;cases h
  | cons c r =>
   rw[he] at h;simp only at h ⊢;obtain⟨hb,h⟩:=dc h;rw[hb];exact wO h
theorem vT:∀ (cs:List AV) (off:Nat) (n:List AV),off+n.length<=cs.length->tz cs off n=place cs off n
 | [],off,n,h=>by
  have hn:n.length=0:=by simp only[List.length_nil] at h;omega
  have:n=[]:=Yz hn;subst this;simp[tz,place]
 | c::cs,0,n,h=>by
  cases n with
  | nil=>simp[tz,place]
  | cons x r =>
   have:=vT cs 0 r (by simp at h;omega);simp only[tz,this,place,List.take_zero,List.nil_append,Nat.zero_add,List.length_cons,List.drop_succ_cons,List.cons_append]
 | c::cs,k+1,n,h=>by
  have:=vT cs k n (by simp at h;omega);simp only[tz,this,place,List.take_succ_cons,List.cons_append];rw[show k+1+n.length=(k+n.length)+1 by omega,List.drop_succ_cons]
theorem uV{sz:Nat}:∀ {els:List AV},(∀ x∈els,x.cells.length=sz)->∀ {n:Nat} {x:AV},els[n]? = Zz x->∀ {j:Nat} {c:AV},x.cells[j]? = Zz c->(els.flatMap AV.cells)[n*sz+j]? = Zz c
 | [],_,n,x,h,_,_,_=>by simp at h
 | y::r,hs,n,x,h,j,c,hj=>by
  have hy:=hs y (by simp);rw[Zg];cases n with
  | zero =>
   simp at h;subst h;have:j<y.cells.length:=(Zq.1 hj).1;rw[Nat.zero_mul,Nat.zero_add,List.getElem?_append_left this];exact hj
  | succ n =>
   simp at h;have ih:=uV (fun z hz=>hs z (by simp[hz])) h hj;rw[List.getElem?_append_right (by rw[hy,Yy];omega)];rw[show(n+1)*sz+j-y.cells.length=n*sz+j by rw[hy,Yy];omega];exact ih
theorem kY{sz:Nat}:∀ {els:List AV},(∀ x∈els,x.cells.length=sz)->(els.flatMap AV.cells).length=els.length*sz
 | [],_=>by simp
 | x::r,h=>by
  rw[Zg,List.length_append,kY fun y hy=>h y (by simp[hy]),h x (by simp),List.length_cons,Yy];omega
theorem Kr{α:Type}{c:CT}{v:AV}{k:AV->Option α}{r:α}(h:gJ c v k=Zz r):v.cells=[v]:=by
 cases v<;>first | rfl | (cases c<;>simp[gJ,AV.ax,AV.qJ,AV.dS,AV.fc,AV.dP,AV.iH] at h)
theorem Ej{α:Type}{i:TI}{v:AV}{k:AV->Option α}{r:α}(h:norm i v k=Zz r)(ha:dy i.kind=Zv):v.cells=[v]:=by
 unfold norm at h;rw[ha] at h;simp only at h;split at h
 ·exact Kr h
 ·cases h
theorem ye{α:Type}{i:TI}{v:AV}{k:AV->Option α}{r:α}(h:norm i v k=Zz r):match v with | .fO _=>False | .aD _=>False | _=>True:=by
 cases v<;>try trivial
 all_goals
  unfold norm at h;split at h
  ·simp[AV.dD] at h
  ·split at h
   ·rename_i c _;cases c<;>simp[gJ,AV.ax,AV.qJ,AV.dS,AV.fc,AV.dP,AV.iH] at h
   ·cases h
theorem yb{α:Type}:∀ {ia:List CT} {cs:List AV} {k:List AV->Option α} {r:α},n9 ia cs k=Zz r->∀ (j:Nat) (l:List AV),cs[j]? = Zz (.aD l)->False
 | [],cs,k,r,h,j,l,hj=>by
  obtain⟨rfl,_⟩:=oa h;simp at hj
 | c::ia,cs,k,r,h,j,l,hj=>by
  obtain⟨x,q,rfl,h2⟩:=gK h;cases j with
  | zero =>
   simp only[List.getElem?_cons_zero,Option.some.injEq] at hj;subst hj;cases c<;>simp[gJ,AV.ax,AV.qJ,AV.dS,AV.fc,AV.dP,AV.iH] at h2
  | succ j =>
   have h3:=mC h2;exact yb h3 j l (by simpa using hj)
theorem B6{α:Type}{i:TI}{cs:List AV}{k:AV->Option α}{r:α}(h:norm i (.agg cs) k=Zz r)(j:Nat)(l:List AV)(hj:cs[j]? = Zz (.aD l)):False:=by
 unfold norm at h;split at h
 ·exact yb h j l hj
 ·split at h
  ·rename_i c _;cases c<;>simp[gJ,AV.ax,AV.qJ,AV.dS,AV.fc,AV.dP,AV.iH] at h
  ·cases h
theorem Ei{α:Type}{t:Nat}:∀ {j:Nat} {ia:List CT} {cs:List AV} {k:List AV->List AV->Option α} {r:α},ry t j ia cs k=Zz r->∃ l,cs[j]? = Zz (.aD l)/\k (cs.set j (.row t)) l=Zz r
 | 0,[],cs,k,r,h=>by simp only[ry] at h;cases h
 | j+1,[],cs,k,r,h=>by simp only[ry] at h;cases h
 | 0,c::ia,cs,k,r,h=>by
  simp only[ry] at h;obtain⟨x,q,rfl,h2⟩:=gK h;obtain⟨l,rfl,h3⟩:=qI h2;exact⟨l,by simp,by simpa using w_ h3⟩
 | j+1,c::ia,cs,k,r,h=>by
  simp only[ry] at h;obtain⟨x,q,rfl,h2⟩:=gK h;obtain⟨l,h4,h5⟩:=Ei (mC h2);exact⟨l,by simpa using h4,by simpa using h5⟩
theorem Nx{α:Type}{E:Env}{fs:List (Nat×Nat)}{t:Nat}{i:TI}{v:AV}{st:Nat->bT}{k:AV->(Nat->bT)->FP->Option α}{r:α}(h:Hu E fs t i v st k=Zz r) :
  (∃ cs j l e ei,v = .agg cs/\cs[j]? = Zz (.aD l)/\st t = .free/\Rs E.ty fs=Zz (j,e,ei)/\k (.agg (cs.set j (.row t))) (dd st t (.c6 e ei.size l Zv)) ⟨[t],[t]⟩=Zz r)\/norm i v (fun v'=>k v' st .none)=Zz r:=by
 unfold Hu at h;split at h
 ·rename_i j e ei hf;split at h
  ·rename_i ht;obtain⟨cs,rfl,h2⟩:=vP h;obtain⟨l,h3,h4⟩:=Ei h2;exact .inl ⟨cs,j,l,e,ei,rfl,h3,ht,hf,h4⟩
  ·cases h
 ·exact .inr h
end Go.Abs
/- The types of a program, as the abstract interpreter sees them. -/
namespace Go.Abs
def Dm(P:Program)(t:Nat):Bool :=
 match P.underlying t,P.info? t with
 | some (.int .u8),Zz i=>i.size==1&&i.bytes==1&&(match i.zero with | some (.int .u8 0)=>Zn | _=>Zv)
 | _,_=>Zv
def sized(P:Program)(t:Nat):Bool:=match P.info? t with | some i=>Zj 0 i.size | none=>Zv
def LC(P:Program):Nat->Nat->Option (List CT)
 | 0,_=>none
 | n+1,t=>match P.underlying t with
  | some (.int .u8)=>Zz [.u8]
  | some (.int k)=>Zz [.int k]
  | some .bool=>Zz [.bool]
  | some .string=>Zz [.str]
  | some (.slice e)=>Zz [if Dm P e then .eL else .sl (match P.info? e with | some i=>i.size | none=>0)]
  | some (.pointer _)=>Zz [.ptr]
  | some (.map _ _)=>Zz [.other]
  | some (.func _ _ _)=>Zz [.other]
  | some (.struct fs)=>fs.toList.foldr (fun f acc=>match LC P n f.type,acc with | some a,Zz b=>Zz (a++b) | _,_=>none) (Zz [])
  | some (.array k e)=>match LC P n e with
   | some l=>Zz ((List.replicate k l).flatten)
   | none=>none
  | _=>none
def g_(P:Program)(t:Nat):Option TK :=
 match P.underlying t with
 | some (.int .u8)=>Zz .u8
 | some (.int k)=>Zz (.int k)
 | some .bool=>Zz .bool
 | some .string=>Zz .str
 | some (.slice e)=>Zz (.slice e (Dm P e))
 | some (.pointer e)=>Zz (.ptr e)
 | some (.array n e)=>Zz (.dp n e (Dm P e))
 | some (.map k e)=>Zz (.map k e)
 | some (.struct fs) => if fs.toList.all (fun f => sized P f.type && f.name != "_") then Zz (.struct (fs.toList.map fun f => (f.offset, f.type))) else none
 | some (.func _ _ _)=>Zz .other
 | _=>none
def x5(P:Program):List Field->Nat->Bool
 | [],_=>Zn
 | f :: r, o => f.offset == o && f.name != "_" && (match P.info? f.type with | some i => Zj 0 i.size && x5 P r (o + i.size) | none => Zv)
def LB(k:IntKind):CT:=match k with | .u8 => .u8 | k => .int k
def L5(a:Option (List CT))(i:Option TypeInfo)(b:Option (List CT)):Option (List CT) :=
 match a with
 | some a=>match i with
  | some i=>match b with
   | some b=>if a.length=i.size then Zz (a++b) else none
   | none=>none
  | none=>none
 | none=>none
def wo(P:Program):Nat->Nat->Option (List CT)
 | 0,_=>none
 | n+1,t=>match P.underlying t,P.info? t with
  | some (.int k),Zz i=>if i.size=1 then Zz [LB k] else none
  | some .bool,Zz i=>if i.size=1 then Zz [.bool] else none
  | some .string,Zz i=>if i.size=1 then Zz [.str] else none
  | some (.struct fs),Zz i=>if P.stoodInHeld t=Zv/\x5 P fs.toList 0=Zn then fs.toList.foldr (fun f acc=>L5 (wo P n f.type) (P.info? f.type) acc) (Zz []) else none
  | _,_=>none
def Gt(z:Option Value)(k:TK):Bool:=match z with
 | some (.agg _)=>dy k
 | some _ => !dy k
 | none=>Zv
def fl(P:Program)(t:Nat):Option TI :=
 match P.info? t,g_ P t,LC P 20 t with
 | some i,Zz k,Zz ia=>match i.zero.bind fun v=>pS v.cells.toList with
  | some z=>if z.length=i.size&&ia.length=i.size&&Gt i.zero k then Zz ⟨i.size,i.bytes,k,z,ia,if P.eqGuardType P.depth t=Zv then(wo P 20 t).getD [] else[]⟩ else none
  | none=>none
 | _,_,_=>none
end Go.Abs
/- What it means that a value of the model's, in a world, is one of the abstract interpreter's; and that this stays so. -/
namespace Go.Abs
abbrev bP:=Nat->Nat
def lL(b:UInt8):Value := .int .u8 b.toNat
inductive cu (w:World) (p:bP):Value->AV->Prop
 | int {k:IntKind} {n:Int} (hk:k ≠ .u8):cu w p (.int k n) (.int k n)
 | u8 {b:UInt8}:cu w p (lL b) (.u8 b)
 | bool {b:Bool}:cu w p (.bool b) (.bool b)
 | str {s:ByteArray} {l:List UInt8} (h:s.data.toList=l):cu w p (.string s) (.str l)
 | bs {a:Option Addr} {len cap:Nat} {l:List UInt8} (β off:Nat) (hl:l.length=len) (hc:len<=cap) (ha:len=0\/a=Zz ⟨β,off,none⟩)
   (h:∀ i b,l[i]? = Zz b->off+i<p β/\w.cell? ⟨β,off+i,none⟩=Zz (lL b)):cu w p (.slice a len cap) (.bs l)
 | sl {a:Option Addr} {len cap sz:Nat} {els:List AV} (β off:Nat) (vs:Nat->Value) (hl:els.length=len) (hc:len<=cap) (gh:∀ e∈els,e.cells.length=sz) (ha:len=0\/a=Zz ⟨β,off,none⟩)
   (h:∀ j c,(els.flatMap AV.cells)[j]? = Zz c->off+j<p β/\w.cell? ⟨β,off+j,none⟩=Zz (vs j))
   (hr:∀ j c,(els.flatMap AV.cells)[j]? = Zz c->cu w p (vs j) c):cu w p (.slice a len cap) (.sl sz els)
 | bY {a:Option Addr}:cu w p (.slice a 0 0) .bY
 | mh:cu w p (.pointer none) .mh
 | ze:cu w p (.map none) .ze
 | so:cu w p .nilFunc .so
 | fn {f:Nat}:cu w p (.func (.func f) #[] #[]) (.fn f)
 | jV {β off:Nat} {cs:List AV} (vs:Nat->Value) (h:∀ j c,cs[j]? = Zz c->off+j<p β/\w.cell? ⟨β,off+j,none⟩=Zz (vs j))
   (hr:∀ j c,cs[j]? = Zz c->cu w p (vs j) c):cu w p (.pointer (Zz ⟨β,off,none⟩)) (.jV cs)
structure bp (R:Value->AV->Prop) (vs:List Value) (cs:List AV):Prop where
 len:vs.length=cs.length
 each:∀ (i:Nat) (v:Value) (c:AV),vs[i]? = Zz v->cs[i]? = Zz c->R v c
theorem bp.imp{R R':Value->AV->Prop}{vs:List Value}{cs:List AV}(h:bp R vs cs)(hr:∀ v c,R v c->R' v c):bp R' vs cs :=
 ⟨h.len,fun i v c hv hc=>hr v c (h.each i v c hv hc)⟩
theorem bp.nil{R:Value->AV->Prop}:bp R [] []:=⟨rfl,fun i v c hv=>by simp at hv⟩
theorem bp.cons{R:Value->AV->Prop}{v:Value}{c:AV}{vs:List Value}{cs:List AV}(h:R v c)(t:bp R vs cs):bp R (v::vs) (c::cs) :=
 ⟨by simp[t.len],fun i x y hx hy=>by
  cases i with
  | zero=>simp at hx hy;subst hx;subst hy;exact h
  | succ i=>simp at hx hy;exact t.each i x y hx hy⟩
theorem bp.ij{R:Value->AV->Prop}{vs:List Value}{c:AV}{cs:List AV}(h:bp R vs (c::cs)):∃ v SO,vs=v::SO/\R v c/\bp R SO cs:=by
 cases vs with
 | nil=>have:=h.len;simp at this
 | cons v SO=>exact⟨v,SO,rfl,h.each 0 v c rfl rfl,by have:=h.len;simpa using this,fun i x y hx hy=>h.each (i+1) x y (by simpa using hx) (by simpa using hy)⟩
theorem bp.jw{R:Value->AV->Prop}{vs:List Value}(h:bp R vs []):vs=[]:=Yz (by simpa using h.len)
theorem bp.get{R:Value->AV->Prop}{vs:List Value}{cs:List AV}(h:bp R vs cs){i:Nat}{c:AV}(hc:cs[i]? = Zz c):∃ v,vs[i]? = Zz v/\R v c:=by
 have hi:i<cs.length:=(Zq.1 hc).1;have oP:i<vs.length:=by rw[h.len];exact hi
 exact⟨vs[i],Zb oP,h.each i _ c (Zb oP) hc⟩
theorem bp.drop{R:Value->AV->Prop}{vs:List Value}{cs:List AV}(h:bp R vs cs)(n:Nat):bp R (vs.drop n) (cs.drop n) :=
 ⟨by simp[h.len],fun i v c hv hc=>h.each (n+i) v c (by simpa using hv) (by simpa using hc)⟩
theorem bp.take{R:Value->AV->Prop}{vs:List Value}{cs:List AV}(h:bp R vs cs)(n:Nat):bp R (vs.take n) (cs.take n) :=
 ⟨by simp[h.len],fun i v c hv hc=>by
  rw[Zk] at hv hc;split at hv
  ·rw[Qa1 ‹_›] at hc;exact h.each i v c hv hc
  ·cases hv⟩
theorem bp.append{R:Value->AV->Prop}{vs us:List Value}{cs ds:List AV}(h:bp R vs cs)(k:bp R us ds):bp R (vs++us) (cs++ds) :=
 ⟨by simp[h.len,k.len],fun i v c hv hc=>by
  rw[List.getElem?_append] at hv hc;rw[h.len] at hv;split at hv
  ·rw[Qa1 ‹_›] at hc;exact h.each i v c hv hc
  ·rw[Qa0 ‹_›] at hc;exact k.each _ v c hv hc⟩
def cj:Value->Option Nat
 | .pointer (Zz a)=>Zz a.block
 | .slice (Zz a) _ cap=>if cap=0 then none else Zz a.block
 | .map (Zz r)=>Zz r
 | _=>none
section
variable (w:World) (p:bP) (g:Nat->Value) (u:Nat->Prop)
inductive dh:Value->AV->Prop
 | jr {v:Value} {a:AV} (h:cu w p v a):dh v a
 | ptr {k off β:Nat} (hu:u k) (hg:g k = .pointer (Zz ⟨β,0,none⟩)):dh (.pointer (Zz ⟨β,off,none⟩)) (.ptr k off)
 | jM {k i sz off β:Nat} (hu:u k) (hg:cj (g k)=Zz β):dh (.pointer (Zz ⟨β,i*sz+off,none⟩)) (.jM k i sz off)
 | row {k:Nat} (hu:u k) (hs:∃ a l c,g k = .slice a l c):dh (g k) (.row k)
 | mp {k β:Nat} (hu:u k) (hg:g k = .map (Zz β)):dh (.map (Zz β)) (.mp k)
 | b_ {k e sz:Nat} (hu:u k) (hs:∃ a l c,g k = .slice a l c):dh (g k) (.b_ k e sz)
 | ph {k β b cap:Nat} {iN:List Nat} (hu:u k) (hg:g k = .pointer (Zz ⟨b,0,none⟩)) (h:∀ (j off:Nat),iN[j]? = Zz off->j<p β/\w.cell? ⟨β,j,none⟩=Zz (.pointer (Zz ⟨b,off,none⟩))):dh (.slice (Zz ⟨β,0,none⟩) iN.length cap) (.ph k iN)
 | pX {k β j off b:Nat} (hu:u k) (hg:g k = .pointer (Zz ⟨b,0,none⟩)) (hp:j<p β) (hc:w.cell? ⟨β,j,none⟩=Zz (.pointer (Zz ⟨b,off,none⟩))):dh (.pointer (Zz ⟨β,j,none⟩)) (.pX k off)
 | pre {k n β l cap:Nat} (hu:u k) (hg:g k = .slice (Zz ⟨β,0,none⟩) l cap) (hn:n<=l):dh (.slice (Zz ⟨β,0,none⟩) n cap) (.pre k n)
 | C5 {k m β l cap:Nat} {a:Option Addr} (hu:u k) (hg:g k = .slice (Zz ⟨β,0,none⟩) l cap) (hm:m<=l) (ha:m=l\/a=Zz ⟨β,m,none⟩):dh (.slice a (l-m) (cap-m)) (.C5 k m)
 | zG {f:Nat} {vs us:Array Value} {fs cs:List (Nat×Nat)} (h1:vs.size=fs.length) (h2:us.size=cs.length)
   (hf:∀ (j k off:Nat),fs[j]? = Zz (k,off)->u k/\∃ β,g k = .pointer (Zz ⟨β,0,none⟩)/\vs[j]? = Zz (.pointer (Zz ⟨β,off,none⟩)))
   (hc:∀ (j k off:Nat),cs[j]? = Zz (k,off)->u k/\∃ β,g k = .pointer (Zz ⟨β,0,none⟩)/\us[j]? = Zz (.pointer (Zz ⟨β,off,none⟩))):dh (.func (.func f) vs us) (.zG f fs cs)
def xq(v:Value)(a:AV):Prop :=
 dh w p g u v a\/∃ dp cs,v = .agg dp/\a = .agg cs/\bp (dh w p g u) dp.toList cs
def bL(v:Value)(a:AV):Prop :=
 a = .undef\/xq w p g u v a\/∃ dp as,v = .tuple dp/\a = .bC as/\bp (xq w p g u) dp.toList as
end
structure dr (w:World) (p:bP) (g:Nat->Value) (u:Nat->Prop) (w':World) (p':bP) (g':Nat->Value) (u':Nat->Prop):Prop where
 mO:∀ β,p β<=p' β
 cell:∀ β i,i<p β->w'.cell? ⟨β,i,none⟩=w.cell? ⟨β,i,none⟩
 gk:∀ k,u k->g' k=g k
 uk:∀ k,u k->u' k
theorem cu.mono{w w':World}{p p':bP}(hp:∀ β,p β<=p' β)(hc:∀ β i,i<p β->w'.cell? ⟨β,i,none⟩=w.cell? ⟨β,i,none⟩){v:Value}{a:AV}(h:cu w p v a):cu w' p' v a:=by
 induction h with
 | int hk=>exact .int hk
 | u8=>exact .u8
 | bool=>exact .bool
 | str h=>exact .str h
 | bs β off hl qD ha h=>exact .bs β off hl qD ha fun i b hb=>⟨Zf (h i b hb).1 (hp β),(hc β _ (h i b hb).1).trans (h i b hb).2⟩
 | sl β off vs hl qD gh ha h _ ih=>exact .sl β off vs hl qD gh ha (fun j c hj=>⟨Zf (h j c hj).1 (hp β),(hc β _ (h j c hj).1).trans (h j c hj).2⟩) ih
 | bY=>exact .bY
 | mh=>exact .mh
 | ze=>exact .ze
 | so=>exact .so
 | fn=>exact .fn
 | jV vs h _ ih=>exact .jV vs (fun j c hj=>⟨Zf (h j c hj).1 (hp _),(hc _ _ (h j c hj).1).trans (h j c hj).2⟩) ih
section
variable {w w':World} {p p':bP} {g g':Nat->Value} {u u':Nat->Prop}
theorem dr.refl:dr w p g u w p g u:=⟨fun _=>Zd _,fun _ _ _=>rfl,fun _ _=>rfl,fun _ h=>h⟩
theorem dr.trans{w'':World}{p'':bP}{g'':Nat->Value}{u'':Nat->Prop}(h:dr w p g u w' p' g' u')(k:dr w' p' g' u' w'' p'' g'' u''):dr w p g u w'' p'' g'' u'' :=
 ⟨fun β=>Nat.le_trans (h.mO β) (k.mO β),fun β i hi=>(k.cell β i (Zf hi (h.mO β))).trans (h.cell β i hi),fun x hx=>(k.gk x (h.uk x hx)).trans (h.gk x hx),fun x hx=>k.uk x (h.uk x hx)⟩
theorem dr.wg(m:dr w p g u w' p' g' u'){v:Value}{a:AV}(h:cu w p v a):cu w' p' v a:=h.mono m.mO m.cell
theorem dr.Dy(m:dr w p g u w' p' g' u'){v:Value}{a:AV}(h:dh w p g u v a):dh w' p' g' u' v a:=by
 cases h with
 | jr h=>exact .jr (m.wg h)
 | ptr hu hg=>exact .ptr (m.uk _ hu) ((m.gk _ hu).trans hg)
 | jM hu hg=>exact .jM (m.uk _ hu) (by rw[m.gk _ hu];exact hg)
 | row hu hs=>rw[<-m.gk _ hu];exact .row (m.uk _ hu) (by rw[m.gk _ hu];exact hs)
 | mp hu hg=>exact .mp (m.uk _ hu) ((m.gk _ hu).trans hg)
 | b_ hu hs=>rw[<-m.gk _ hu];exact .b_ (m.uk _ hu) (by rw[m.gk _ hu];exact hs)
 | ph hu hg h=>exact .ph (m.uk _ hu) ((m.gk _ hu).trans hg) fun j off hj=>⟨Zf (h j off hj).1 (m.mO _),(m.cell _ _ (h j off hj).1).trans (h j off hj).2⟩
 | pX hu hg hp hc=>exact .pX (m.uk _ hu) ((m.gk _ hu).trans hg) (Zf hp (m.mO _)) ((m.cell _ _ hp).trans hc)
 | pre hu hg hn=>exact .pre (m.uk _ hu) ((m.gk _ hu).trans hg) hn
 | C5 hu hg hm ha=>exact .C5 (m.uk _ hu) ((m.gk _ hu).trans hg) hm ha
 | zG h1 h2 hf hc=>exact .zG h1 h2 (fun j k off hj=>by obtain⟨hu,β,hg,hv⟩:=hf j k off hj;exact⟨m.uk _ hu,β,(m.gk _ hu).trans hg,hv⟩) (fun j k off hj=>by obtain⟨hu,β,hg,hv⟩:=hc j k off hj;exact⟨m.uk _ hu,β,(m.gk _ hu).trans hg,hv⟩)
theorem dr.Oj(m:dr w p g u w' p' g' u'){v:Value}{a:AV}(h:xq w p g u v a):xq w' p' g' u' v a:=by
 rcases h with h | ⟨dp,cs,rfl,rfl,h⟩
 ·exact .inl (m.Dy h)
 ·exact .inr ⟨dp,cs,rfl,rfl,h.imp fun _ _=>m.Dy⟩
theorem dr.Aw(m:dr w p g u w' p' g' u'){v:Value}{a:AV}(h:bL w p g u v a):bL w' p' g' u' v a:=by
 rcases h with h | h | ⟨dp,cs,rfl,rfl,h⟩
 ·exact .inl h
 ·exact .inr (.inl (m.Oj h))
 ·exact .inr (.inr ⟨dp,cs,rfl,rfl,h.imp fun _ _=>m.Oj⟩)
end
def mr(w:World)(B e size:Nat)(v:Value)(n:Nat)(xs:List Value):Prop :=
 xs.length=n*size/\((n=0/\∃ a,v = .slice a 0 0) \/
  ∃ β cap kG,v = .slice (Zz ⟨β,0,none⟩) n cap/\0<cap/\B<=β/\w.heap[β]? = Zz (.cells kG e (0,0))/\n<=cap/\cap<=maxLen/\kG.size=cap*size/\kG.toList.take (n*size)=xs)
def used(st:Nat->bT)(k:Nat):Prop:=st k ≠ .free
def wJ(w:World)(p:bP)(β e sz cap:Nat)(els:List AV):Prop :=
 0<sz/\(∀ x∈els,x.cells.length=sz)/\0<cap/\els.length<=cap/\cap<=maxLen/\p β=0/\∃ kG vs,w.heap[β]? = Zz (.cells kG e (0,0))/\kG.size=cap*sz/\vs.length=els.length*sz/\kG.toList.take (els.length*sz)=vs/\bp (cu w p) vs (els.flatMap AV.cells)
def yI(w:World)(p:bP)(s:Bool)(kd:IntKind)(es:Array MapEntry)(els:List AV):Prop :=
 es.size=els.length/\∀ (i:Nat) (e:MapEntry) (a:AV),es[i]? = Zz e->els[i]? = Zz a->∃ ka va,a = .bC [ka,va]/\rp s kd ka=Zn/\cu w p e.key ka/\(cu w p e.val va\/∃ dp cs,e.val = .agg dp/\va = .agg cs/\bp (cu w p) dp.toList cs)
theorem wJ.keep{w w':World}{p p':bP}{β e sz cap:Nat}{els:List AV}(h:wJ w p β e sz cap els)(hr:∀ v a,cu w p v a->cu w' p' v a)(e1:w'.heap[β]? = w.heap[β]?)(e2:p' β=p β):wJ w' p' β e sz cap els:=by
 obtain⟨h1,h2,h3,h4,h5,h6,kG,vs,h7,h8,h9,Tc,WB⟩:=h;exact⟨h1,h2,h3,h4,h5,e2.trans h6,kG,vs,e1.trans h7,h8,h9,Tc,WB.imp hr⟩
theorem yI.mono{w w':World}{p p':bP}{s:Bool}{kd:IntKind}{es:Array MapEntry}{els:List AV}(h:yI w p s kd es els)(hr:∀ v a,cu w p v a->cu w' p' v a):yI w' p' s kd es els:=by
 refine⟨h.1,fun i e a he ha=> ?_⟩;obtain⟨ka,va,h1,h2,h3,h4⟩:=h.2 i e a he ha;refine⟨ka,va,h1,h2,hr _ _ h3,?_⟩;rcases h4 with h4 | ⟨dp,cs,e1,e2,e3⟩
 ·exact .inl (hr _ _ h4)
 ·exact .inr ⟨dp,cs,e1,e2,e3.imp hr⟩
def nM(w:World)(p:bP)(g:Nat->Value)(u:Nat->Prop)(B:Nat)(M:Nat->Prop)(k:Nat):bT->Prop
 | .free=>True
 | .dead=>True
 | .cells cs=>∃ β c e,g k = .pointer (Zz ⟨β,0,none⟩)/\(M β\/B<=β)/\w.heap[β]? = Zz (.cells c e (0,0))/\bp (dh w p g u) c.toList cs/\p β=0
 | .jJ l iP=>∃ β c e,g k = .pointer (Zz ⟨β,0,none⟩)/\B<=β/\w.heap[β]? = Zz (.cells c e (0,0))/\c.toList=l.map lL/\p β<=l.length/\(iP=Zv->p β=0)
 | .fu e l iP=>mr w B e 1 (g k) l.length (l.map lL)/\∀ β,cj (g k)=Zz β->p β<=l.length/\(iP=Zv->p β=0)
 | .c6 e sz els iP=>0<sz/\(∀ x∈els,x.cells.length=sz)/\∃ vs,mr w B e sz (g k) els.length vs/\bp (cu w p) vs (els.flatMap AV.cells) /\
   ∀ β,cj (g k)=Zz β->p β<=els.length*sz/\(iP=Zv->p β=0)
 | .oX s kd els=>∃ β es clock,g k = .map (Zz β)/\B<=β/\w.heap[β]? = Zz (.map es clock)/\yI w p s kd es els/\p β=0
 | .jo e sz els=>∃ β cap,g k = .slice (Zz ⟨β,0,none⟩) els.length cap/\(M β\/B<=β)/\wJ w p β e sz cap els
def bT.live:bT->Prop
 | .free=>False
 | .dead=>False
 | _=>True
structure cE (B:Nat) (M:Nat->Prop) (w0:World) (p0:bP) (w:World) (p:bP) (g:Nat->Value) (st:Nat->bT):Prop where
 os:w.os=w0.os
 tape:w.tape=w0.tape
 output:w.output=w0.output
 size:B<=w.heap.size
 old:∀ β,β<B->¬ M β->w.heap[β]? = w0.heap[β]?
 lR:∀ k,nM w p g (used st) B M k (st k)
 ue:∀ k k' β,k≠k'->(st k).live->(st k').live->cj (g k)=Zz β->cj (g k')≠Zz β
 nt:∀ β,w.heap.size<=β->p β=0
 NW:∀ β,β<B->p β=p0 β
theorem ff{w:World}{β i:Nat}{c:Array Value}{e:TypeId}{f:Nat×Nat}(h:w.heap[β]? = Zz (.cells c e f)):w.cell? ⟨β,i,none⟩=c[i]? := by
 simp[World.cell?,h]
theorem l9{w:World}{β:Nat}{o:Obj}(h:w.heap[β]? = Zz o):β<w.heap.size:=(Array.getElem?_eq_some_iff.1 h).1
theorem qb{w w':World}{β:Nat}(h:w'.heap[β]? = w.heap[β]?)(i:Nat):w'.cell? ⟨β,i,none⟩=w.cell? ⟨β,i,none⟩:=by
 simp[World.cell?,h]
theorem aW{β:Type}(f:Nat->β)(k:Nat)(b:β):dd f k b k=b:=by simp[dd]
theorem cl{β:Type}(f:Nat->β){k x:Nat}(b:β)(h:x≠k):dd f k b x=f x:=by
 have hb:Zy x k=Zv:=by
  cases hb:Zy x k
  ·rfl
  ·exact absurd (Zx hb) h
 simp[dd,hb]
theorem mr.keep{w w':World}{B e size:Nat}{v:Value}{n:Nat}{xs:List Value}(h:mr w B e size v n xs)(hk:∀ β,cj v=Zz β->w'.heap[β]? = w.heap[β]?):mr w' B e size v n xs:=by
 obtain⟨hl,h | ⟨β,cap,kG,rfl,h0,hB,hh,r⟩⟩:=h
 ·exact⟨hl,.inl h⟩
 ·exact⟨hl,.inr ⟨β,cap,kG,rfl,h0,hB,by rw[hk β (by simp[cj];omega)];exact hh,r⟩⟩
theorem nM.keep{w w':World}{p p':bP}{g g':Nat->Value}{u u':Nat->Prop}{B:Nat}{M:Nat->Prop}{k:Nat}{b:bT}(h:nM w p g u B M k b)(m:dr w p g u w' p' g' u')(hu:u k)
  (hk:∀ β,cj (g k)=Zz β->w'.heap[β]? = w.heap[β]? /\ p' β=p β):nM w' p' g' u' B M k b:=by
 have hg:=m.gk k hu;cases b with
 | free=>trivial
 | dead=>trivial
 | cells cs =>
  obtain⟨β,c,e,h1,h2,h3,h4,h5⟩:=h;obtain⟨e1,e2⟩:=hk β (by rw[h1];rfl);exact⟨β,c,e,hg.trans h1,h2,e1.trans h3,h4.imp fun _ _=>m.Dy,e2.trans h5⟩
 | jJ l iP =>
  obtain⟨β,c,e,h1,h2,h3,h4,h5,h6⟩:=h;obtain⟨e1,e2⟩:=hk β (by rw[h1];rfl);exact⟨β,c,e,hg.trans h1,h2,e1.trans h3,h4,by rw[e2];exact h5,fun x=>e2.trans (h6 x)⟩
 | fu e l iP =>
  obtain⟨h1,h2⟩:=h;refine⟨by rw[hg];exact h1.keep fun β hb=>(hk β hb).1,fun β hb=> ?_⟩;rw[hg] at hb;rw[(hk β hb).2];exact h2 β hb
 | c6 e sz els iP =>
  obtain⟨h0,h1,vs,h2,h3,h4⟩:=h;refine⟨h0,h1,vs,by rw[hg];exact h2.keep fun β hb=>(hk β hb).1,h3.imp fun _ _=>m.wg,fun β hb=> ?_⟩;rw[hg] at hb;rw[(hk β hb).2];exact h4 β hb
 | oX s kd els =>
  obtain⟨β,es,clock,h1,h2,h3,h4,h5⟩:=h;obtain⟨e1,e2⟩:=hk β (by rw[h1];rfl);exact⟨β,es,clock,hg.trans h1,h2,e1.trans h3,h4.mono fun _ _=>m.wg,e2.trans h5⟩
 | jo e sz els =>
  obtain⟨β,cap,h1,h2,h3⟩:=h;obtain⟨e1,e2⟩:=hk β (by rw[h1];have:=h3.2.2.1;simp[cj];omega);exact⟨β,cap,hg.trans h1,h2,h3.keep (fun _ _=>m.wg) e1 e2⟩
theorem qd{st:Nat->bT}{k:Nat}(h:(st k).live):used st k:=fun e=>by rw[e] at h;exact h
theorem nM.wa{w:World}{p:bP}{g:Nat->Value}{u:Nat->Prop}{B:Nat}{M:Nat->Prop}{k:Nat}{b:bT}(h:nM w p g u B M k b)(hl:b.live){β:Nat}(hv:cj (g k)=Zz β):β<w.heap.size:=by
 cases b with
 | free=>exact hl.elim
 | dead=>exact hl.elim
 | cells cs=>obtain⟨β',c,e,h1,h2,h3,_⟩:=h;rw[h1] at hv;cases hv;exact l9 h3
 | jJ l iP=>obtain⟨β',c,e,h1,h2,h3,_⟩:=h;rw[h1] at hv;cases hv;exact l9 h3
 | fu e l iP =>
  obtain⟨⟨_,⟨_,a,h⟩ | ⟨β',cap,kG,h,h0,hB,hh,_⟩⟩,_⟩:=h
  ·rw[h] at hv;cases a<;>simp[cj] at hv
  ·rw[h] at hv;have:β'=β:=by simp[cj] at hv;exact hv.2
   subst this;exact l9 hh
 | c6 e sz els iP =>
  obtain⟨_,_,vs,⟨_,⟨_,a,h⟩ | ⟨β',cap,kG,h,h0,hB,hh,_⟩⟩,_⟩:=h
  ·rw[h] at hv;cases a<;>simp[cj] at hv
  ·rw[h] at hv;have:β'=β:=by simp[cj] at hv;exact hv.2
   subst this;exact l9 hh
 | oX s kd els=>obtain⟨β',es,clock,h1,h2,h3,_⟩:=h;rw[h1] at hv;cases hv;exact l9 h3
 | jo e sz els =>
  obtain⟨β',cap,h1,h2,h3,h4,h5,h6,h7,h8,kG,vs,h9,_⟩:=h;rw[h1] at hv;have:β'=β:=by simp[cj] at hv;exact hv.2
  subst this;exact l9 h9
theorem cE.change{B:Nat}{M:Nat->Prop}{w0:World}{p0:bP}{w w':World}{p p':bP}{g g':Nat->Value}{st st':Nat->bT}(h:cE B M w0 p0 w p g st)
  (W5:w'.os=w.os) (BG:w'.tape=w.tape) (FB:w'.output=w.output) (gh:w.heap.size<=w'.heap.size)
  (K D:Nat->Prop) (dH:∀ k,¬ K k->st' k=st k) (hu:∀ k,used st k->used st' k) (hg:∀ k,used st k->g' k=g k)
  (oO:∀ β,β<w.heap.size->¬ D β->w'.heap[β]? = w.heap[β]? /\ p' β=p β)
  (hD:∀ β,D β->β<B->M β/\p' β=p β)
  (u5:∀ β,p β<=p' β) (hcell:∀ β i,i<p β->w'.cell? ⟨β,i,none⟩=w.cell? ⟨β,i,none⟩)
  (Hl:∀ β,w'.heap.size<=β->p' β=0)
  (aaZ:∀ k β,¬ K k->(st k).live->cj (g k)=Zz β->¬ D β)
  (hK:∀ k,K k->nM w' p' g' (used st') B M k (st' k))
  (UD:∀ k k' β,K k->k'≠k->(st' k).live->(st' k').live->cj (g' k)=Zz β->cj (g' k')≠Zz β) :
  cE B M w0 p0 w' p' g' st'/\dr w p g (used st) w' p' g' (used st'):=by
 have hm:dr w p g (used st) w' p' g' (used st'):=⟨u5,hcell,hg,hu⟩;refine⟨⟨W5.trans h.os,BG.trans h.tape,FB.trans h.output,Nat.le_trans h.size gh,fun β hβ hM=> ?_,fun k=> ?_,fun k k' β ic hl tU hv=> ?_,Hl,fun β hβ=> ?_⟩,hm⟩
 ·have hnD:¬ D β:=fun hd=>hM (hD β hd hβ).1;exact(oO β (Zf hβ h.size) hnD).1.trans (h.old β hβ hM)
 ·by_cases hk:K k
  ·exact hK k hk
  ·have hs:=dH k hk;rw[hs];by_cases hl:(st k).live
   ·exact(h.lR k).keep hm (qd hl) fun β hv=>oO β ((h.lR k).wa hl hv) (aaZ k β hk hl hv)
   ·cases hb:st k<;>first | trivial | (rw[hb] at hl;exact absurd trivial hl)
 ·by_cases hk:K k
  ·exact UD k k' β hk (Ne.symm ic) hl tU hv
  ·by_cases qW:K k'
   ·intro BH;exact UD k' k β qW ic tU hl BH hv
   ·rw[dH k hk] at hl;rw[dH k' qW] at tU;rw[hg k (qd hl)] at hv;rw[hg k' (qd tU)];exact h.ue k k' β ic hl tU hv
 ·by_cases hd:D β
  ·exact(hD β hd hβ).2.trans (h.NW β hβ)
  ·exact(oO β (Zf hβ h.size) hd).2.trans (h.NW β hβ)
section
variable {B:Nat} {M:Nat->Prop} {w0:World} {p0:bP} {w w':World} {p p':bP} {g:Nat->Value} {st:Nat->bT}
theorem qT{t:Nat}{b:bT}(hb:b ≠ .free){k:Nat}(h:used st k):used (dd st t b) k:=by
 by_cases e:k=t
 ·subst e;unfold used;rw[aW];exact hb
 ·unfold used;rw[cl _ _ e];exact h
theorem cE.add(h:cE B M w0 p0 w p g st){t:Nat}{b:bT}{v:Value}(ht:st t = .free)(hb:b ≠ .free)
  (W5:w'.os=w.os) (BG:w'.tape=w.tape) (FB:w'.output=w.output) (gh:w.heap.size<=w'.heap.size)
  (oO:∀ β,β<w.heap.size->w'.heap[β]? = w.heap[β]? /\ p' β=p β) (u5:∀ β,p β<=p' β) (Hl:∀ β,w'.heap.size<=β->p' β=0)
  (hv:∀ β,cj v=Zz β->w.heap.size<=β)
  (hB:dr w p g (used st) w' p' (dd g t v) (used (dd st t b))->nM w' p' (dd g t v) (used (dd st t b)) B M t b) :
  cE B M w0 p0 w' p' (dd g t v) (dd st t b)/\dr w p g (used st) w' p' (dd g t v) (used (dd st t b)):=by
 have hu:∀ k,used st k->used (dd st t b) k:=fun k hk=>qT hb hk;have hg:∀ k,used st k->dd g t v k=g k:=fun k hk=>cl _ _ (fun e=>by subst e;exact hk ht);have hcell:∀ β i,i<p β->w'.cell? ⟨β,i,none⟩=w.cell? ⟨β,i,none⟩:=fun β i hi=>by
  rcases Nat.lt_or_ge β w.heap.size with gO | Dh
  ·exact qb (oO β gO).1 i
  ·rw[h.nt β Dh] at hi;omega
 refine h.change W5 BG FB gh (fun k=>k=t) (fun _=>False) (fun k hk=>cl _ _ hk) hu hg (fun β hβ _=>oO β hβ) (fun _ hd=>hd.elim) u5 hcell Hl (fun _ _ _ _ _ hd=>hd.elim) ?_ ?_
 ·rintro k rfl;rw[aW];exact hB ⟨u5,hcell,hg,hu⟩
 ·rintro k k' β rfl ic _ tU LU nI;rw[aW] at LU;rw[cl _ _ ic] at tU nI;have h1:=hv β LU;have h2:=(h.lR k').wa tU nI;omega
theorem cE.modify(h:cE B M w0 p0 w p g st){k:Nat}{b:bT}{β₀:Nat}(hk:(st k).live)(hb:b.live)(hβ:cj (g k)=Zz β₀)
  (W5:w'.os=w.os) (BG:w'.tape=w.tape) (FB:w'.output=w.output) (gh:w'.heap.size=w.heap.size)
  (oO:∀ β,β≠β₀->w'.heap[β]? = w.heap[β]? /\ p' β=p β) (hB0:β₀<B->M β₀/\p' β₀=p β₀)
  (u5:p β₀<=p' β₀) (hcell:∀ i,i<p β₀->w'.cell? ⟨β₀,i,none⟩=w.cell? ⟨β₀,i,none⟩)
  (hB:dr w p g (used st) w' p' g (used (dd st k b))->nM w' p' g (used (dd st k b)) B M k b) :
  cE B M w0 p0 w' p' g (dd st k b)/\dr w p g (used st) w' p' g (used (dd st k b)):=by
 have Nf:b ≠ .free:=fun e=>by rw[e] at hb;exact hb
 have hu:∀ j,used st j->used (dd st k b) j:=fun j hj=>qT Nf hj;have gO:β₀<w.heap.size:=(h.lR k).wa hk hβ;have Qh:∀ β,p β<=p' β:=fun β=>by
  by_cases e:β=β₀
  ·subst e;exact u5
  ·rw[(oO β e).2];exact Zd _
 have P2:∀ β i,i<p β->w'.cell? ⟨β,i,none⟩=w.cell? ⟨β,i,none⟩:=fun β i hi=>by
  by_cases e:β=β₀
  ·subst e;exact hcell i hi
  ·exact qb (oO β e).1 i
 refine h.change W5 BG FB (by omega) (fun j=>j=k) (fun β=>β=β₀) (fun j hj=>cl _ _ hj) hu (fun _ _=>rfl) (fun β _ hd=>oO β hd) (fun β hd hlB=>by subst hd;exact hB0 hlB) Qh P2 ?_ ?_ ?_ ?_
 ·intro β hβ;rw[(oO β (by omega)).2];exact h.nt β (by omega)
 ·rintro j β hj hl hv rfl;exact h.ue j k β hj hl hk hv hβ
 ·rintro j rfl;rw[aW];exact hB ⟨Qh,P2,fun _ _=>rfl,hu⟩
 ·rintro j j' β rfl ic _ tU LU nI;rw[cl _ _ ic] at tU;exact h.ue j j' β (Ne.symm ic) hk tU LU nI
end
end Go.Abs
/- The types' facts; constants; operations that touch no memory. -/
namespace Go.Abs
theorem bM{P:Program}{t:Nat}{i:TI}(h:fl P t=Zz i):∃ info z,P.info? t=Zz info/\info.size=i.size/\info.bytes=i.bytes/\info.zero=Zz z/\pS z.cells.toList=Zz i.zero/\i.zero.length=i.size/\i.ia.length=i.size/\g_ P t=Zz i.kind/\LC P 20 t=Zz i.ia/\i.Y6=(if P.eqGuardType P.depth t=Zv then(wo P 20 t).getD [] else[]):=by
 unfold fl at h;split at h
 ·rename_i info k ia h1 h2 h3;cases hz:info.zero with
  | none=>simp[hz] at h
  | some z =>
   cases hc:pS z.cells.toList with
   | none=>simp[hz,hc] at h
   | some cs =>
    simp only[hz,Option.bind_some,hc] at h;split at h
    ·rename_i hl;simp at hl;cases h;exact⟨info,z,h1,rfl,rfl,hz,hc,hl.1.1,hl.1.2,h2,h3,rfl⟩
    ·cases h
 ·cases h
theorem NP{P:Program}{t:Nat}{i:TI}(h:fl P t=Zz i):∃ info,P.info? t=Zz info/\Gt info.zero i.kind=Zn:=by
 unfold fl at h;split at h
 ·rename_i info k ia h1 h2 h3;split at h
  ·split at h
   ·rename_i hl;simp only[Zp] at hl;cases h;exact⟨info,h1,hl.2⟩
   ·cases h
  ·cases h
 ·cases h
theorem eN{P:Program}{t e:Nat}{b:Bool}(h:g_ P t=Zz (.slice e b)):P.underlying t=Zz (.slice e)/\b=Dm P e:=by grind [g_]
theorem sc{P:Program}{t n e:Nat}{b:Bool}(h:g_ P t=Zz (.dp n e b)):P.underlying t=Zz (.array n e)/\b=Dm P e:=by grind [g_]
theorem QC{P:Program}{t e:Nat}(h:g_ P t=Zz (.ptr e)):P.underlying t=Zz (.pointer e):=by grind [g_]
theorem nj{P:Program}{t:Nat}(h:g_ P t=Zz .str):P.underlying t=Zz .string:=by grind [g_]
theorem D6{P:Program}{t:Nat}(h:g_ P t=Zz .bool):P.underlying t=Zz .bool:=by grind [g_]
theorem L8{P:Program}{t:Nat}(h:g_ P t=Zz .u8):P.underlying t=Zz (.int .u8):=by grind [g_]
theorem BR{P:Program}{t:Nat}{k:IntKind}(h:g_ P t=Zz (.int k)):P.underlying t=Zz (.int k)/\k ≠ .u8:=by grind [g_]
theorem oT {P : Program} {t : Nat} {fs : List (Nat × Nat)} (h : g_ P t = Zz (.struct fs)) : ∃ fields, P.underlying t = Zz (.struct fields) ∧ (∀ f ∈ fields.toList, sized P f.type = Zn ∧ f.name ≠ "_") ∧ fs = fields.toList.map fun f => (f.offset, f.type) := by grind [g_]
theorem x3{P:Program}{t k e:Nat}(h:g_ P t=Zz (.map k e)):P.underlying t=Zz (.map k e):=by grind [g_]
theorem Ki{P:Program}{t:Nat}(h:g_ P t=Zz .other):∃ a b c,P.underlying t=Zz (.func a b c):=by grind [g_]
theorem jB{P:Program}{e:Nat}(h:Dm P e=Zn):P.underlying e=Zz (.int .u8)/\∃ info,P.info? e=Zz info/\info.size=1/\info.bytes=1/\info.zero=Zz (.int .u8 0):=by
 unfold Dm at h;split at h
 ·rename_i i h1 h2;simp only[Zp,Qb1] at h;refine⟨h1,i,h2,h.1.1,h.1.2,?_⟩;have h3:=h.2;split at h3
  ·assumption
  ·cases h3
 ·cases h
theorem qi{P:Program}{t:Nat}{k:TK}(h:g_ P t=Zz k)(w:World):(isAgg t).run P w = .ok (dy k) w:=by
 unfold isAgg;cases k with
 | int k=>simp[run_underlying (BR h).1,dy]
 | u8=>simp[run_underlying (L8 h),dy]
 | bool=>simp[run_underlying (D6 h),dy]
 | str=>simp[run_underlying (nj h),dy]
 | slice e b=>simp[run_underlying (eN h).1,dy]
 | dp n e b=>simp[run_underlying (sc h).1,dy]
 | struct fs=>obtain⟨fields,hu,_⟩:=oT h;simp[run_underlying hu,dy]
 | ptr e=>simp[run_underlying (QC h),dy]
 | map a b=>simp[run_underlying (x3 h),dy]
 | other=>obtain⟨a,b,c,hu⟩:=Ki h;simp[run_underlying hu,dy]
theorem run_sizeOf{P:Program}{t:Nat}{info:TypeInfo}(h:P.info? t=Zz info)(w:World):(sizeOf t).run P w = .ok info.size w:=by
 simp[sizeOf,typeInfo,h]
theorem jp{P:Program}{t:Nat}{info:TypeInfo}{z:Value}(h:P.info? t=Zz info)(hz:info.zero=Zz z)(w:World):(zeroValue t).run P w = .ok z w:=by
 simp[zeroValue,typeInfo,h,hz]
theorem QN{k:IntKind}(hk:k ≠ .u8)(n:Int):oY k n = .int k n:=by cases k<;>first | rfl | exact absurd rfl hk
theorem hF{w:World}{p:bP}{k:IntKind}{n:Int}(h:k = .u8->0<=n/\n<256):cu w p (.int k n) (oY k n):=by
 by_cases hk:k = .u8
 ·subst hk;obtain⟨h0,h1⟩:=h rfl;have e:(Value.int .u8 n)=lL (UInt8.ofNat n.toNat):=by
   unfold lL;congr 1;rw[UInt8.toNat_ofNat'];omega
  rw[e];exact .u8
 ·rw[QN hk];exact .int hk
theorem wrap_u8(n:Int):0<=IntKind.u8.wrap n/\IntKind.u8.wrap n<256:=by
 unfold IntKind.wrap;simp[IntKind.bits,IntKind.signed];omega
theorem B7{w:World}{p:bP}{v:Value}{a:AV}(h:FW v=Zz a):cu w p v a:=by
 unfold FW at h;split at h
 ·cases h;exact .bool
 ·rename_i k n;split at h
  ·cases hc:(Zw (0<=n)&&Zw (n<256)) with
   | false=>simp[hc] at h
   | true =>
    rw[hc] at h;have h':AV.u8 (UInt8.ofNat n.toNat)=a:=by simpa using h
    subst h';simp at hc;exact hF (k := .u8) fun _=>hc
  ·rename_i hk;cases h;exact .int fun e=>hk e
 ·cases h;exact .str rfl
 ·cases h;exact .bY
 ·cases h;exact .mh
 ·cases h;exact .ze
 ·cases h;exact .so
 ·cases h
theorem im{w:World}{p:bP}:∀ {vs:List Value} {as:List AV},pS vs=Zz as->bp (cu w p) vs as
 | [],as,h=>by simp[pS] at h;subst h;exact .nil
 | v::r,as,h=>by
  simp only[pS] at h;split at h
  ·rename_i a l h1 h2;cases h;exact .cons (B7 h1) (im h2)
  ·cases h
section
variable {w:World} {p:bP} {g:Nat->Value} {u:Nat->Prop}
theorem NU{v:Value}{a:AV}(h:QS v=Zz a):bL w p g u v a:=by
 unfold QS at h;split at h
 ·rename_i cs;cases hc:pS cs.toList with
  | none=>simp[hc] at h
  | some l =>
   simp[hc] at h;subst h;exact .inr (.inl (.inr ⟨cs,l,rfl,rfl,(im hc).imp fun _ _ => .jr⟩))
 ·exact .inr (.inl (.inl (.jr (B7 h))))
theorem cu.wk{v:Value}{a:AV}(h:cu w p v a):v.cells = #[v]/\v.oneCell'=Zn/\a.cells=[a]/\a.ec=Zn:=by
 cases h<;>simp[Value.cells,Value.oneCell',AV.cells,AV.ec,lL]
theorem dh.wk{v:Value}{a:AV}(h:dh w p g u v a):v.cells = #[v]/\v.oneCell'=Zn/\a.cells=[a]/\a.ec=Zn:=by
 cases h with
 | jr h=>exact h.wk
 | ptr=>simp[Value.cells,Value.oneCell',AV.cells,AV.ec]
 | jM=>simp[Value.cells,Value.oneCell',AV.cells,AV.ec]
 | row hu hs=>obtain⟨a,l,c,e⟩:=hs;rw[e];simp[Value.cells,Value.oneCell',AV.cells,AV.ec]
 | mp=>simp[Value.cells,Value.oneCell',AV.cells,AV.ec]
 | b_ hu hs=>obtain⟨a,l,c,e⟩:=hs;rw[e];simp[Value.cells,Value.oneCell',AV.cells,AV.ec]
 | ph=>simp[Value.cells,Value.oneCell',AV.cells,AV.ec]
 | pX=>simp[Value.cells,Value.oneCell',AV.cells,AV.ec]
 | pre=>simp[Value.cells,Value.oneCell',AV.cells,AV.ec]
 | C5=>simp[Value.cells,Value.oneCell',AV.cells,AV.ec]
 | zG=>simp[Value.cells,Value.oneCell',AV.cells,AV.ec]
theorem bL.cells{v:Value}{a:AV}(h:bL w p g u v a)(hc:a.cells.all AV.ec=Zn):bp (dh w p g u) v.cells.toList a.cells:=by
 rcases h with rfl | (h | ⟨dp,cs,rfl,rfl,h⟩) | ⟨dp,cs,rfl,rfl,h⟩
 ·simp[AV.cells,AV.ec] at hc
 ·rw[h.wk.1,h.wk.2.2.1];exact .cons h .nil
 ·exact h
 ·simp[AV.cells,AV.ec] at hc
theorem bp.one{vs:List Value}{cs:List AV}(h:bp (dh w p g u) vs cs):∀ v∈vs,v.oneCell'=Zn:=by
 intro v hv;obtain⟨i,hi⟩:=List.getElem?_of_mem hv;have gO:i<cs.length:=by rw[<-h.len];exact(Zq.1 hi).1
 exact(h.each i v _ hi (Zb gO)).wk.2.1
theorem bp.XP{vs:List Value}{cs:List AV}(h:bp (cu w p) vs cs):∀ v∈vs,v.oneCell'=Zn:=by
 intro v hv;obtain⟨i,hi⟩:=List.getElem?_of_mem hv;have gO:i<cs.length:=by rw[<-h.len];exact(Zq.1 hi).1
 exact(h.each i v _ hi (Zb gO)).wk.2.1
theorem bL.int{v:Value}{k:IntKind}{n:Int}(h:bL w p g u v (.int k n)):v = .int k n/\k ≠ .u8:=by
 rcases h with h | (h | ⟨dp,cs,_,h,_⟩) | ⟨dp,cs,_,h,_⟩<;>first | cases h
 rename_i h;cases h;exact⟨rfl,by assumption⟩
theorem bL.u8{v:Value}{b:UInt8}(h:bL w p g u v (.u8 b)):v=lL b:=by
 rcases h with h | (h | ⟨dp,cs,_,h,_⟩) | ⟨dp,cs,_,h,_⟩<;>first | cases h
 rename_i h;cases h;rfl
theorem bL.bool{v:Value}{b:Bool}(h:bL w p g u v (.bool b)):v = .bool b:=by
 rcases h with h | (h | ⟨dp,cs,_,h,_⟩) | ⟨dp,cs,_,h,_⟩<;>first | cases h
 rename_i h;cases h;rfl
theorem bL.str{v:Value}{l:List UInt8}(h:bL w p g u v (.str l)):∃ s:ByteArray,v = .string s/\s.data.toList=l:=by
 rcases h with h | (h | ⟨dp,cs,_,h,_⟩) | ⟨dp,cs,_,h,_⟩<;>first | cases h
 rename_i h;cases h;exact⟨_,rfl,by assumption⟩
theorem bL.bs{v:Value}{l:List UInt8}(h:bL w p g u v (.bs l)):cu w p v (.bs l):=by
 rcases h with h | (h | ⟨dp,cs,_,h,_⟩) | ⟨dp,cs,_,h,_⟩<;>first | cases h
 assumption
theorem bL.sl{v:Value}{z:Nat}{l:List AV}(h:bL w p g u v (.sl z l)):cu w p v (.sl z l):=by
 rcases h with h | (h | ⟨dp,cs,_,h,_⟩) | ⟨dp,cs,_,h,_⟩<;>first | cases h
 assumption
theorem bL.bY{v:Value}(h:bL w p g u v .bY):∃ a,v = .slice a 0 0:=by
 rcases h with h | (h | ⟨dp,cs,_,h,_⟩) | ⟨dp,cs,_,h,_⟩<;>first | cases h
 rename_i h;cases h;exact⟨_,rfl⟩
theorem bL.row{v:Value}{k:Nat}(h:bL w p g u v (.row k)):u k/\v=g k/\∃ a l c,g k = .slice a l c:=by
 rcases h with h | (h | ⟨dp,cs,_,h,_⟩) | ⟨dp,cs,_,h,_⟩<;>first | cases h
 ·rename_i h;cases h
 ·exact⟨by assumption,rfl,by assumption⟩
theorem bL.ptr{v:Value}{k off:Nat}(h:bL w p g u v (.ptr k off)):u k/\∃ β,g k = .pointer (Zz ⟨β,0,none⟩)/\v = .pointer (Zz ⟨β,off,none⟩):=by
 rcases h with h | (h | ⟨dp,cs,_,h,_⟩) | ⟨dp,cs,_,h,_⟩<;>first | cases h
 ·rename_i h;cases h
 ·exact⟨by assumption,_,by assumption,rfl⟩
theorem bL.jM{v:Value}{k i sz off:Nat}(h:bL w p g u v (.jM k i sz off)):u k/\∃ β,cj (g k)=Zz β/\v = .pointer (Zz ⟨β,i*sz+off,none⟩):=by
 rcases h with h | (h | ⟨dp,cs,_,h,_⟩) | ⟨dp,cs,_,h,_⟩<;>first | cases h
 ·rename_i h;cases h
 ·exact⟨by assumption,_,by assumption,rfl⟩
theorem bL.b_{v:Value}{k e sz:Nat}(h:bL w p g u v (.b_ k e sz)):u k/\v=g k/\∃ a l c,g k = .slice a l c:=by
 rcases h with h | (h | ⟨dp,cs,_,h,_⟩) | ⟨dp,cs,_,h,_⟩<;>first | cases h
 ·rename_i h;cases h
 ·exact⟨by assumption,rfl,by assumption⟩
theorem bL.mp{v:Value}{k:Nat}(h:bL w p g u v (.mp k)):u k/\∃ β,g k = .map (Zz β)/\v = .map (Zz β):=by
 rcases h with h | (h | ⟨dp,cs,_,h,_⟩) | ⟨dp,cs,_,h,_⟩<;>first | cases h
 ·rename_i h;cases h
 ·exact⟨by assumption,_,by assumption,rfl⟩
theorem bL.jV{v:Value}{cs:List AV}(h:bL w p g u v (.jV cs)):cu w p v (.jV cs):=by
 rcases h with h | (h | ⟨dp,cs,_,h,_⟩) | ⟨dp,cs,_,h,_⟩<;>first | cases h
 assumption
theorem bL.pX{v:Value}{k off:Nat}(h:bL w p g u v (.pX k off)):u k/\∃ β j b,g k = .pointer (Zz ⟨b,0,none⟩)/\v = .pointer (Zz ⟨β,j,none⟩)/\w.cell? ⟨β,j,none⟩=Zz (.pointer (Zz ⟨b,off,none⟩)):=by
 rcases h with h | (h | ⟨dp,cs,_,h,_⟩) | ⟨dp,cs,_,h,_⟩<;>first | cases h
 ·rename_i h;cases h
 ·rename_i hp hu hg hc;exact⟨by assumption,_,_,_,by assumption,rfl,by assumption⟩
theorem bL.ph{v:Value}{k:Nat}{iN:List Nat}(h:bL w p g u v (.ph k iN)):u k/\∃ β b cap,g k = .pointer (Zz ⟨b,0,none⟩)/\v = .slice (Zz ⟨β,0,none⟩) iN.length cap/\∀ (j off:Nat),iN[j]? = Zz off->j<p β/\w.cell? ⟨β,j,none⟩=Zz (.pointer (Zz ⟨b,off,none⟩)):=by
 rcases h with h | (h | ⟨dp,cs,_,h,_⟩) | ⟨dp,cs,_,h,_⟩<;>first | cases h
 ·rename_i h;cases h
 ·exact⟨by assumption,_,_,_,by assumption,rfl,by assumption⟩
theorem bL.fn{v:Value}{f:Nat}(h:bL w p g u v (.fn f)):v = .func (.func f) #[] #[]:=by
 rcases h with h | (h | ⟨dp,cs,_,h,_⟩) | ⟨dp,cs,_,h,_⟩<;>first | cases h
 rename_i h;cases h;rfl
theorem bL.zG{v:Value}{f:Nat}{fs cs:List (Nat×Nat)}(h:bL w p g u v (.zG f fs cs)):∃ vs us:Array Value,v = .func (.func f) vs us/\bp (bL w p g u) vs.toList (mi fs)/\bp (bL w p g u) us.toList (mi cs):=by
 have key:∀ {vs:Array Value} {fs:List (Nat×Nat)},vs.size=fs.length->(∀ (j k off:Nat),fs[j]? = Zz (k,off)->u k/\∃ β,g k = .pointer (Zz ⟨β,0,none⟩)/\vs[j]? = Zz (.pointer (Zz ⟨β,off,none⟩)))->bp (bL w p g u) vs.toList (mi fs):=by
  intro vs fs h1 h2;refine⟨by simp[mi,h1],fun i v c hv hc=> ?_⟩;simp only[mi,List.getElem?_map,Option.map_eq_some_iff] at hc;obtain⟨⟨k,off⟩,hj,rfl⟩:=hc;obtain⟨hu,β,hg,hx⟩:=h2 i k off hj;have:v = .pointer (Zz ⟨β,off,none⟩):=by
   have BH:vs[i]? = Zz v:=by simpa using hv
   rw[hx] at BH;cases BH;rfl
  subst this;exact .inr (.inl (.inl (.ptr hu hg)))
 rcases h with h | (h | ⟨dp,cs,_,h,_⟩) | ⟨dp,cs,_,h,_⟩
 ·cases h
 ·cases h with
  | jr h=>cases h
  | zG h1 h2 hf hc=>exact⟨_,_,rfl,key h1 hf,key h2 hc⟩
 ·cases h
 ·cases h
theorem bL.pre{v:Value}{k n:Nat}(h:bL w p g u v (.pre k n)):u k/\∃ β l cap,g k = .slice (Zz ⟨β,0,none⟩) l cap/\n<=l/\v = .slice (Zz ⟨β,0,none⟩) n cap:=by
 rcases h with h | (h | ⟨dp,cs,_,h,_⟩) | ⟨dp,cs,_,h,_⟩<;>first | cases h
 ·rename_i h;cases h
 ·exact⟨by assumption,_,_,_,by assumption,by assumption,rfl⟩
theorem bL.C5{v:Value}{k m:Nat}(h:bL w p g u v (.C5 k m)):u k/\∃ β l cap a,g k = .slice (Zz ⟨β,0,none⟩) l cap/\m<=l/\(m=l\/a=Zz ⟨β,m,none⟩)/\v = .slice a (l-m) (cap-m):=by
 rcases h with h | (h | ⟨dp,cs,_,h,_⟩) | ⟨dp,cs,_,h,_⟩<;>first | cases h
 ·rename_i h;cases h
 ·exact⟨by assumption,_,_,_,_,by assumption,by assumption,by assumption,rfl⟩
theorem bL.agg{v:Value}{cs:List AV}(h:bL w p g u v (.agg cs)):∃ dp,v = .agg dp/\bp (dh w p g u) dp.toList cs:=by
 rcases h with h | (h | ⟨dp,kU,rfl,h,hc⟩) | ⟨dp,cs,_,h,_⟩
 ·cases h
 ·cases h with | jr h=>cases h
 ·cases h;exact⟨dp,rfl,hc⟩
 ·cases h
theorem bL.bC{v:Value}{as:List AV}(h:bL w p g u v (.bC as)):∃ dp,v = .tuple dp/\bp (xq w p g u) dp.toList as:=by
 rcases h with h | (h | ⟨dp,kU,rfl,h,hc⟩) | ⟨dp,as',rfl,h,hc⟩
 ·cases h
 ·cases h with | jr h=>cases h
 ·cases h
 ·cases h;exact⟨dp,rfl,hc⟩
theorem cu.v{v:Value}{a:AV}(h:cu w p v a):bL w p g u v a := .inr (.inl (.inl (.jr h)))
theorem dh.v{v:Value}{a:AV}(h:dh w p g u v a):bL w p g u v a := .inr (.inl (.inl h))
end
end Go.Abs
/- Operations on memory: new blocks, loads, stores. -/
namespace Go.Abs
section
variable {P:Program} {B:Nat} {M:Nat->Prop} {w0:World} {p0:bP} {w:World} {p:bP} {g:Nat->Value}
def Good(B:Nat)(M:Nat->Prop)(w0:World)(p0:bP)(w:World)(p:bP)(g:Nat->Value)(st:Nat->bT)(v:AV)(st':Nat->bT)(r:Result Value):Prop :=
 ∃ v' w' p' g',r = .ok v' w'/\cE B M w0 p0 w' p' g' st'/\dr w p g (used st) w' p' g' (used st')/\bL w' p' g' (used st') v' v
theorem Good.same{st:Nat->bT}{v:AV}{v':Value}{r:Result Value}(h:cE B M w0 p0 w p g st)(hr:r = .ok v' w)(hv:bL w p g (used st) v' v):Good B M w0 p0 w p g st v st r :=
 ⟨v',w,p,g,hr,h,dr.refl,hv⟩
theorem eH(w:World)(o:Obj){β:Nat}(h:β<w.heap.size):(w.alloc o).heap[β]? = w.heap[β]? := Go.RowKit.Below.heap_alloc w o β h
theorem fK(w:World)(o:Obj):(w.alloc o).heap[w.heap.size]? = Zz o:=heap_alloc_new w o
theorem cE.mg{st:Nat->bT}(h:cE B M w0 p0 w p g st)(o:Obj):∀ β,(w.alloc o).heap.size<=β->p β=0:=fun β hβ=>h.nt β (by simp at hβ;omega)
theorem wu{st:Nat->bT}{t:Nat}(h:cE B M w0 p0 w p g st)(ht:st t = .free)(c:Array Value)(e:TypeId){cs:List AV}(hc:bp (dh w p g (used st)) c.toList cs) :
  Good B M w0 p0 w p g st (.ptr t 0) (dd st t (.cells cs)) (.ok (.pointer (Zz ⟨w.heap.size,0,none⟩)) (w.alloc (.cells c e))):=by
 obtain⟨hs,hm⟩:=h.add (w':=w.alloc (.cells c e)) (p':=p) (t:=t) (b := .cells cs) (v := .pointer (Zz ⟨w.heap.size,0,none⟩)) ht (by simp) rfl rfl rfl (by simp)
  (fun β hβ=>⟨eH w _ hβ,rfl⟩) (fun _=>Zd _) (h.mg _) (fun β hβ=>by simp[cj] at hβ;omega)
  (fun hm=>⟨w.heap.size,c,e,by rw[aW],.inr h.size,fK w _,hc.imp fun _ _=>hm.Dy,h.nt _ (Zd _)⟩)
 refine⟨_,_,p,_,rfl,hs,hm,dh.v (.ptr ?_ (by rw[aW]))⟩;unfold used;rw[aW];simp
theorem Fu{st:Nat->bT}{t:Nat}(h:cE B M w0 p0 w p g st)(ht:st t = .free)(c:Array Value)(e:TypeId){l:List UInt8}(hc:c.toList=l.map lL) :
  Good B M w0 p0 w p g st (.ptr t 0) (dd st t (.jJ l Zv)) (.ok (.pointer (Zz ⟨w.heap.size,0,none⟩)) (w.alloc (.cells c e))):=by
 have hp:p w.heap.size=0:=h.nt _ (Zd _);obtain⟨hs,hm⟩:=h.add (w':=w.alloc (.cells c e)) (p':=p) (t:=t) (b := .jJ l Zv) (v := .pointer (Zz ⟨w.heap.size,0,none⟩)) ht (by simp) rfl rfl rfl (by simp)
  (fun β hβ=>⟨eH w _ hβ,rfl⟩) (fun _=>Zd _) (h.mg _) (fun β hβ=>by simp[cj] at hβ;omega)
  (fun hm=>⟨w.heap.size,c,e,by rw[aW],h.size,fK w _,hc,by omega,fun _=>hp⟩)
 refine⟨_,_,p,_,rfl,hs,hm,dh.v (.ptr ?_ (by rw[aW]))⟩;unfold used;rw[aW];simp
theorem A5:∀ {as:List AV} {l:List UInt8},SB as=Zz l->as=l.map .u8
 | [],l,h=>by simp[SB] at h;subst h;rfl
 | a::r,l,h=>by
  cases a<;>simp[SB] at h;obtain⟨l',h',rfl⟩:=h;rw[A5 h'];rfl
theorem xC{R:Value->AV->Prop}(hR:∀ v b,R v (.u8 b)->v=lL b):∀ {vs:List Value} {l:List UInt8},bp R vs (l.map .u8)->vs=l.map lL
 | vs,[],h=>h.jw
 | vs,b::l,h=>by
  obtain⟨v,SO,rfl,h1,h2⟩:=h.ij;rw[hR v b h1,xC hR h2];rfl
theorem F_{v:Value}{b:UInt8}(h:cu w p v (.u8 b)):v=lL b:=by cases h;rfl
theorem Ol{t:Nat}{info:TypeInfo}{z:Value}(hi:P.info? t=Zz info)(hz:info.zero=Zz z) :
  (Instr.alloc t Zn (.tuple #[])).run P w = .ok (.pointer (Zz ⟨w.heap.size,0,none⟩)) (w.alloc (.cells z.cells t)):=by
 unfold Instr.alloc;simp[jp hi hz,newVar,newRow]
theorem Oo{α:Type}{fr:Fr}{e t:Nat}{i:TI}(hi:fl P e=Zz i)(h:cE B M w0 p0 w p g fr.st){k:lH α}{r:α}
  (hk:(match i.kind with | .dp _ _ Zn=>(SB i.zero).bind fun l=>iR fr t (.jJ l Zv) (.ptr t 0) k | _=>iR fr t (.cells i.zero) (.ptr t 0) k)=Zz r) :
  ∃ v st' fp,k v st' fp=Zz r/\Good B M w0 p0 w p g fr.st v st' ((Instr.alloc e Zn (.tuple #[])).run P w):=by
 obtain⟨info,z,h1,h2,h3,h4,h5,h6,h7,h8,h9,_⟩:=bM hi;rw[Ol h1 h4];have hz:=im (w:=w) (p:=p) h5;have key:iR fr t (.cells i.zero) (.ptr t 0) k=Zz r->∃ v st' fp,k v st' fp=Zz r/\Good B M w0 p0 w p g fr.st v st' (.ok (.pointer (Zz ⟨w.heap.size,0,none⟩)) (w.alloc (.cells z.cells e))):=by
  intro hk;unfold iR at hk;split at hk
  ·rename_i ht;exact⟨_,_,_,hk,wu h ht _ _ (hz.imp fun _ _ => .jr)⟩
  ·cases hk
 split at hk
 ·cases hl:SB i.zero with
  | none=>simp[hl] at hk
  | some l =>
   simp only[hl,Option.bind_some,iR] at hk;split at hk
   ·rename_i ht;refine⟨_,_,_,hk,Fu h ht _ _ ?_⟩;rw[A5 hl] at hz;exact xC (fun v b=>F_) hz
   ·cases hk
 ·exact key hk
theorem T2{α:Type}{fr:Fr}{e t:Nat}{i:TI}{x:Value}{a:AV}(h:cE B M w0 p0 w p g fr.st)(hx:bL w p g (used fr.st) x a){k:lH α}{r:α}
  (hk:(bif a.cells.length==i.size&&a.cells.all AV.ec then iR fr t (.cells a.cells) (.ptr t 0) k else none)=Zz r) :
  ∃ v st' fp,k v st' fp=Zz r/\Good B M w0 p0 w p g fr.st v st' ((Instr.box e x).run P w):=by
 cases hc:(a.cells.length==i.size&&a.cells.all AV.ec) with
 | false=>simp[hc] at hk
 | true =>
  simp only[hc,Qa6,iR] at hk;simp only[Zp] at hc;split at hk
  ·rename_i ht;refine⟨_,_,_,hk,?_⟩;have:(Instr.box e x).run P w = .ok (.pointer (Zz ⟨w.heap.size,0,none⟩)) (w.alloc (.cells x.cells e)):=by
    unfold Instr.box;simp[newVar,newRow]
   rw[this];exact wu h ht _ _ (hx.cells hc.2)
  ·cases hk
theorem eV(β off j:Nat):(⟨β,off,none⟩:Addr).add j=⟨β,off+j,none⟩:=by unfold Addr.add;split<;>simp_all
theorem vu{t:Nat}{i:TI}(hi:fl P t=Zz i){β off:Nat}{vs:List Value}(hl:vs.length=i.size\/(dy i.kind=Zv/\0<vs.length))
  (hc:∀ j v,vs[j]? = Zz v->w.cell? ⟨β,off+j,none⟩=Zz v) :
  (loadVar t ⟨β,off,none⟩).run P w = .ok (if dy i.kind then .agg vs.toArray else vs.headD undef) w\/vs=[]:=by
 obtain⟨info,z,h1,h2,h3,h4,h5,h6,h7,h8,h9,_⟩:=bM hi;cases hk:dy i.kind with
 | true =>
  left;have tU:vs.length=i.size:=by rcases hl with hl | hl;exact hl;rw[hk] at hl;cases hl.1
  have hld:=run_loadCells_list (P:=P) w ⟨β,off,none⟩ vs (fun j v hj=>by rw[eV];exact hc j v hj);rw[tU,<-h2] at hld;simp[loadVar,qi h8,hk,run_sizeOf h1,hld]
 | false =>
  cases vs with
  | nil=>exact .inr rfl
  | cons v vs =>
   left;have:=hc 0 v rfl;simp[loadVar,qi h8,hk];rw[show off=off+0 from rfl,this]
def uB(w:World)(p:bP)(g:Nat->Value)(st:Nat->bT)(v:AV)(r:Result Value):Prop:=∃ v',r = .ok v' w/\bL w p g (used st) v' v
theorem uB.same{st:Nat->bT}{v:AV}{v':Value}{r:Result Value}(hr:r = .ok v' w)(hv:bL w p g (used st) v' v):uB w p g st v r:=⟨v',hr,hv⟩
theorem uB.mN{st:Nat->bT}{v:AV}{r:Result Value}(h:cE B M w0 p0 w p g st)(hg:uB w p g st v r):Good B M w0 p0 w p g st v st r:=by
 obtain⟨v',hr,hv⟩:=hg;exact Good.same h hr hv
theorem oF{α:Type}{st:Nat->bT}{t:Nat}{i:TI}(hi:fl P t=Zz i)(h:cE B M w0 p0 w p g st){β off:Nat}{vs:List Value}{cs:List AV}(hcs:bp (dh w p g (used st)) vs cs)
  (hc:∀ j v,vs[j]? = Zz v->w.cell? ⟨β,off+j,none⟩=Zz v) {k:AV->Option α} {r:α} (hk:loadCells i cs k=Zz r) :
  ∃ v,k v=Zz r/\uB w p g st v ((loadVar t ⟨β,off,none⟩).run P w):=by
 unfold loadCells at hk;cases hb:Zh i.size cs.length with
 | false=>simp[hb] at hk
 | true =>
  simp only[hb,Qa6] at hk;have hle:i.size<=cs.length:=Zu hb;split at hk
  ·rename_i uf;refine⟨_,hk,?_⟩;have h1:=vu (P:=P) (w:=w) hi (β:=β) (off:=off) (vs:=vs.take i.size) (.inl (by simp[hcs.len];omega)) (fun j v hj=>by
    rw[Zk] at hj;split at hj
    ·exact hc j v hj
    ·cases hj)
   have WA:(loadVar t ⟨β,off,none⟩).run P w = .ok (.agg (vs.take i.size).toArray) w:=by
    rcases h1 with h1 | h1
    ·rw[h1,uf];rfl
    ·obtain⟨info,z,a1,a2,a3,a4,a5,a6,a7,a8,a9,_⟩:=bM hi;have hz:i.size=0:=by
      have:=Qb5 List.length h1;rw[List.length_take,hcs.len,List.length_nil] at this;omega
     have hld:=run_loadCells_list (P:=P) w ⟨β,off,none⟩ [] (fun j v hj=>by simp at hj);simp only[List.length_nil] at hld;rw[hz] at a2;simp[loadVar,qi a8,uf,run_sizeOf a1,a2,hld,hz]
   exact uB.same WA (.inr (.inl (.inr ⟨_,_,rfl,rfl,by simpa using hcs.take i.size⟩)))
  ·rename_i uf;cases cs with
   | nil=>simp at hk
   | cons c cs =>
    obtain⟨v,SO,rfl,hv,_⟩:=hcs.ij;refine⟨_,hk,?_⟩;have h1:=vu (P:=P) (w:=w) hi (β:=β) (off:=off) (vs:=v::SO) (.inr ⟨uf,by simp⟩) hc;rcases h1 with h1 | h1
    ·rw[uf] at h1;exact uB.same h1 (dh.v hv)
    ·cases h1
theorem GR{R:Value->AV->Prop}{vs:List Value}{els:List AV}{sz:Nat}(h:bp R vs (els.flatMap AV.cells))(gh:∀ x∈els,x.cells.length=sz){j:Nat}{x:AV}(hj:els[j]? = Zz x)(off:Nat) :
  bp R ((vs.drop (j*sz+off)).take (sz-off)) (x.cells.drop off):=by
 have hx:=gh x (List.mem_of_getElem? hj);have Np:j<els.length:=(Zq.1 hj).1;have hl:=h.len;rw[kY gh] at hl;have Dh:(j+1)*sz<=els.length*sz:=Zm sz Np;rw[Yy] at Dh;refine⟨?_,fun i v c hv hc=> ?_⟩
 ·rw[List.length_take,List.length_drop,List.length_drop,hx];omega
 ·rw[Zk] at hv;split at hv
  ·rw[Yx] at hv hc;have:=uV gh hj hc;rw[Nat.add_assoc] at hv;exact h.each _ v c hv this
  ·cases hv
theorem vx{α:Type}{E:Env}(fo:∀ t i,E.ty t=Zz i->fl P t=Zz i){fr:Fr}{t:Nat}{i:TI}(hi:fl P t=Zz i)(h:cE B M w0 p0 w p g fr.st){x:Value}{a:AV}(hx:bL w p g (used fr.st) x a){k:lH α}{r:α}(hk:kX E fr i a k=Zz r) :
  ∃ v fp,k v fr.st fp=Zz r/\uB w p g fr.st v ((Instr.loadAt t x).run P w):=by
 unfold kX at hk;split at hk
 ·rename_i b off;obtain⟨hu,β,hg,rfl⟩:=hx.ptr;have hb:=h.lR b;split at hk
  ·rename_i cs dH;rw[dH] at hb;obtain⟨β',c,e,h1,h2,h3,h4,h5⟩:=hb;have:β'=β:=by rw[h1] at hg;cases hg;rfl
   subst this;obtain⟨v,qW,SK⟩:=oF (P:=P) hi h (β:=β') (off:=off) (h4.drop off) (fun j v hj=>by
    rw[ff h3];simpa using hj) hk
   exact⟨v,_,qW,by simpa [Instr.loadAt,Instr.sureAddr] using SK⟩
  ·cases hk
 ·rename_i cs;have hr:=hx.jV;cases hr with
  | jV vs hcell oR =>
   rename_i β off;obtain⟨v,qW,SK⟩:=oF (P:=P) hi h (β:=β) (off:=off) (vs:=(List.range cs.length).map vs) (cs:=cs) ⟨by simp,fun j v c hv hc=>by
     have hj:j<cs.length:=(Zq.1 hc).1;simp[hj] at hv;subst hv;exact .jr (oR j c hc)⟩ (fun j v hj=>by
     have OR:j<cs.length:=by have:=(Zq.1 hj).1;simpa using this
     simp[OR] at hj;subst hj;exact(hcell j _ (Zb OR)).2) hk
   exact⟨v,_,qW,by simpa [Instr.loadAt,Instr.sureAddr] using SK⟩
 ·rename_i b off;obtain⟨hu,β,j,b',hg,rfl,hc⟩:=hx.pX;split at hk
  ·rename_i e fh;obtain⟨gh,bG⟩:=aI hk;have abB:=Zx gh;refine⟨_,_,bG,?_⟩;have uf:dy i.kind=Zv:=by rw[fh];rfl
   have h1:=vu (P:=P) (w:=w) hi (β:=β) (off:=j) (vs:=[.pointer (Zz ⟨b',off,none⟩)]) (.inr ⟨uf,by simp⟩) (fun q v hq=>by
    cases q with
    | zero=>simp at hq;subst hq;simpa using hc
    | succ q=>simp at hq)
   rcases h1 with h1 | h1
   ·rw[uf] at h1;exact uB.same (by simpa [Instr.loadAt,Instr.sureAddr] using h1) (dh.v (.ptr hu hg))
   ·cases h1
  ·cases hk
 ·rename_i b j sz off;obtain⟨hu,β,hg,rfl⟩:=hx.jM;have hb:=h.lR b;have key:∀ (l:List UInt8) (c:Array Value) (e:TypeId) (n:Nat),w.heap[β]? = Zz (.cells c e (0,0))->(c.toList.take n=l.map lL)->aA (Zj j l.length&&Zy off 0&&Zy sz 1 && !dy i.kind) (k (.u8 (l.getD j 0)) fr.st ⟨[b],[]⟩)=Zz r ->
    ∃ v fp,k v fr.st fp=Zz r/\uB w p g fr.st v ((Instr.loadAt t (.pointer (Zz ⟨β,j*sz+off,none⟩))).run P w):=by
   intro l c e n hh hc bG;obtain⟨eg,dt⟩:=aI bG;simp only[Zp,Bool.not_eq_true'] at eg;obtain⟨⟨⟨hj,ho⟩,hs⟩,uf⟩:=eg;have gO:j<l.length:=Zu hj;have Qd:=Zx ho;have hs':=Zx hs;subst Qd;subst hs';refine⟨_,_,dt,uB.same (v':=lL (l.getD j 0)) ?_ (cu.v .u8)⟩;have hcell:w.cell? ⟨β,j,none⟩=Zz (lL (l.getD j 0)):=by
    rw[ff hh];have h1:(l.map lL)[j]? = Zz (lL (l.getD j 0)):=by simp[gO]
    rw[<-hc,Zk] at h1;split at h1
    ·simpa using h1
    ·cases h1
   obtain⟨info,z,a1,a2,a3,a4,a5,a6,a7,a8,a9,_⟩:=bM hi;simp[Instr.loadAt,Instr.sureAddr,loadVar,qi a8,uf,hcell]
  split at hk
  ·rename_i e l iP dH;rw[dH] at hb;obtain⟨⟨hlen,⟨hn,a,hv⟩ | ⟨β',cap,kG,hv,h0,hB,hh,uj,yV,hcs,gH⟩⟩,_⟩:=hb
   ·rw[hv] at hg;cases a<;>simp[cj] at hg
   ·rw[hv] at hg;have:β'=β:=by simp[cj] at hg;exact hg.2
    subst this;exact key l kG e _ hh gH hk
  ·rename_i l iP dH;rw[dH] at hb;obtain⟨β',c,e,h1,h2,h3,h4,h5⟩:=hb;rw[h1] at hg;have:β'=β:=by simp[cj] at hg;exact hg
   subst this;exact key l c e c.size h3 (by rw[List.take_of_length_le (by simp)];exact h4) hk
  ·rename_i e z l iP dH;rw[dH] at hb;split at hk
   ·rename_i ei ju;obtain⟨eg,bG⟩:=aI hk;simp only[Zp] at eg;have gO:j<l.length:=Zu eg.1;have hz:=Zx eg.2;subst hz;have dt:=j6 bG;obtain⟨yY,gh,vs,⟨hlen,⟨hn,a,hv⟩ | ⟨β',cap,kG,hv,h0,hB,hh,uj,yV,hcs,gH⟩⟩,dR,hp⟩:=hb
    ·omega
    ·rw[hv] at hg;have:β'=β:=by simp[cj] at hg;exact hg.2
     subst this;have uY:l[j]? = Zz (l.getD j .undef):=by simp[gO]
     have Tj:=GR (dR.imp fun _ _ hh=>dh.jr (g:=g) (u:=used fr.st) hh) gh uY off;obtain⟨v,qW,SK⟩:=oF (P:=P) hi h (β:=β') (off:=j*z+off) Tj (fun q v hq=>by
      rw[Zk] at hq;split at hq
      ·rw[Yx,<-gH,Zk] at hq;split at hq
       ·rw[ff hh];simpa using hq
       ·cases hq
      ·cases hq) dt
     exact⟨v,_,qW,by simpa [Instr.loadAt,Instr.sureAddr] using SK⟩
   ·cases hk
  ·rename_i e z l dH;rw[dH] at hb;split at hk
   ·rename_i ei ju;obtain⟨eg,bG⟩:=aI hk;simp only[Zp] at eg;have gO:j<l.length:=Zu eg.1;have hz:=Zx eg.2;subst hz;have dt:=j6 bG;obtain⟨β',cap,hv,hB,yY,gh,h0,uj,yV,hp,kG,vs,hh,hcs,hlen,gH,dR⟩:=hb
    ·rw[hv] at hg;have:β'=β:=by simp[cj] at hg;exact hg.2
     subst this;have uY:l[j]? = Zz (l.getD j .undef):=by simp[gO]
     have Tj:=GR (dR.imp fun _ _ hh=>dh.jr (g:=g) (u:=used fr.st) hh) gh uY off;obtain⟨v,qW,SK⟩:=oF (P:=P) hi h (β:=β') (off:=j*z+off) Tj (fun q v hq=>by
      rw[Zk] at hq;split at hq
      ·rw[Yx,<-gH,Zk] at hq;split at hq
       ·rw[ff hh];simpa using hq
       ·cases hq
      ·cases hq) dt
     exact⟨v,_,qW,by simpa [Instr.loadAt,Instr.sureAddr] using SK⟩
   ·cases hk
  ·cases hk
 ·cases hk
theorem KW{α:Type}{E:Env}(fo:∀ t i,E.ty t=Zz i->fl P t=Zz i){fr:Fr}{t:Nat}{i:TI}(hi:fl P t=Zz i)(h:cE B M w0 p0 w p g fr.st){x:Value}{a:AV}(hx:bL w p g (used fr.st) x a){k:lH α}{r:α}(hk:kX E fr i a k=Zz r) :
  ∃ v fp,k v fr.st fp=Zz r/\Good B M w0 p0 w p g fr.st v fr.st ((Instr.loadAt t x).run P w):=by
 obtain⟨v,fp,h1,h2⟩:=vx fo hi h hx hk;exact⟨v,fp,h1,h2.mN h⟩
end
end Go.Abs
/- Operations on numbers, truth values and strings; stores. -/
namespace Go.Abs
section
variable {P:Program} {B:Nat} {M:Nat->Prop} {w0:World} {p0:bP} {w:World} {p:bP} {g:Nat->Value} {u:Nat->Prop}
theorem g9{α:Type}{x y:Value}{a b:AV}(hx:bL w p g u x a)(hy:bL w p g u y b){k:IntKind->Int->Int->Option α}{r:α}(h:iQ a b k=Zz r) :
  ∃ kd n m,x = .int kd n/\y = .int kd m/\k kd n m=Zz r/\(kd = .u8->(0<=n/\n<256)/\(0<=m/\m<256)):=by
 unfold iQ at h;split at h
 ·rename_i k1 n k2 m;obtain⟨rfl,h1⟩:=hx.int;obtain⟨rfl,h2⟩:=hy.int;cases he:(k1==k2) with
  | false=>simp[he] at h
  | true =>
   simp[he] at h;have:k1=k2:=by simpa using he
   subst this;exact⟨k1,n,m,rfl,rfl,h,fun e=>absurd e h1⟩
 ·rename_i n m;have e1:=hx.u8;have e2:=hy.u8;subst e1;subst e2;refine⟨.u8,n.toNat,m.toNat,rfl,rfl,h,fun _=> ?_⟩;have:=n.toNat_lt;have:=m.toNat_lt
  omega
 ·cases h
theorem fQ(op:BinOp)(t:TypeId)(k:IntKind)(n m:Int)(h1:op ≠ .shl)(h2:op ≠ .shr) :
  binOp op t (.int k n) (.int k m)=(match op with
  | .add | .sub | .mul=>Op.intArith op k n m
  | .quo | .rem=>Op.intDiv op k n m
  | .and | .or | .xor | .andNot=>Op.intBits op k n m
  | _=>Op.intCmp op n m):=by
 cases op<;>first | exact absurd rfl h1 | exact absurd rfl h2 | simp[binOp]
theorem ME{n m:Int}(hn:0<=n/\n<256):0<=n.tmod m/\n.tmod m<256:=by
 have h1:0<=n.tmod m:=Int.tmod_nonneg m hn.1;have h2:=Int.natAbs_tmod n m;have h3:=Nat.mod_le n.natAbs m.natAbs;omega
theorem vV{y:Value}{b:AV}(hy:bL w p g u y b){m:Int}(h:sF b=Zz m):∃ k,y = .int k m:=by
 unfold sF at h;split at h
 ·cases h;exact⟨_,hy.int.1⟩
 ·cases h;exact⟨_,hy.u8⟩
 ·cases h
theorem jN{y:Value}{b:AV}(hy:bL w p g u y b){m:Int}(h:idx b=Zz m):∃ k,y = .int k m:=by
 unfold idx at h;split at h
 ·cases h;exact⟨_,hy.int.1⟩
 ·cases h;exact⟨_,hy.u8⟩
 ·cases h
theorem Ta{n:Int}{j:Nat}(hn:0<=n/\n<256):0<=n.fdiv (2 ^ j)/\n.fdiv (2 ^ j)<256:=by
 have hp:(0:Int)<2 ^ j:=Int.pow_pos (by decide);rw[Int.fdiv_eq_ediv_of_nonneg _ (Int.le_of_lt hp)];have h1:=Int.ediv_nonneg hn.1 (Int.le_of_lt hp);have h2:=Int.ediv_le_self (2 ^ j) hn.1;omega
theorem sT{x y:Value}{a b:AV}(hx:bL w p g u x a)(hy:bL w p g u y b){c:Bool}(h:mU a b=Zz c) :
  (∃ k n m,x = .int k n/\y = .int k m/\c=(n==m))\/(∃ s t,x = .bool s/\y = .bool t/\c=(s==t))\/(∃ s t:ByteArray,x = .string s/\y = .string t/\c=(s.data.toList==t.data.toList)):=by
 unfold mU at h;split at h
 ·rename_i k1 n k2 m;obtain⟨rfl,_⟩:=hx.int;obtain⟨rfl,_⟩:=hy.int;cases he:(k1==k2) with
  | false=>simp[he] at h
  | true =>
   simp[he] at h;have:k1=k2:=by simpa using he
   subst this;exact .inl ⟨_,_,_,rfl,rfl,h.symm⟩
 ·rename_i n m;have e1:=hx.u8;have e2:=hy.u8;subst e1;subst e2;cases h;refine .inl ⟨_,_,_,rfl,rfl,?_⟩;rw[Bool.eq_iff_iff];simp;constructor
  ·rintro rfl;rfl
  ·intro h;exact UInt8.toNat.inj (by omega)
 ·have e1:=hx.bool;have e2:=hy.bool;subst e1;subst e2;cases h;exact .inr (.inl ⟨_,_,rfl,rfl,rfl⟩)
 ·obtain⟨s,rfl,hs⟩:=hx.str;obtain⟨t,rfl,ht⟩:=hy.str;cases h;exact .inr (.inr ⟨s,t,rfl,rfl,by rw[hs,ht]⟩)
 ·cases h
theorem z7{t:TypeId}{x y:Value}{a b:AV}(hx:bL w p g u x a)(hy:bL w p g u y b){c:Bool}(h:mU a b=Zz c)(hb:∀ s r,x = .bool s->y = .bool r->P.underlying t=Zz .bool) :
  (binOp .eql t x y).run P w = .ok (.bool c) w/\(binOp .neq t x y).run P w = .ok (.bool !c) w:=by
 rcases sT hx hy h with⟨k,n,m,rfl,rfl,rfl⟩ | ⟨s,r,rfl,rfl,rfl⟩ | ⟨s,r,rfl,rfl,rfl⟩
 ·constructor<;>simp[binOp,Op.intCmp,bne]
 ·have:=hb s r rfl rfl;have he:∀ d,(Op.equalIn (d+1) t (.bool s) (.bool r)).run P w = .ok (s==r) w:=fun d=>by simp[Op.equalIn,run_underlying this]
  constructor<;>(simp only[binOp];simp[Op.equal,Op.maxDepth,he 9999])
 ·constructor<;>simp[binOp,Op.stringOp,Lib.toList_data]
theorem Fp{op:BinOp}{t:TypeId}{x y:Operand}{v v':Value}(h:∀ dp,v ≠ .agg dp)(h':v ≠ .nilIface):(eqGuard op t x y v v').run P w = .ok () w:=by
 cases op<;>first | rfl | (cases v<;>first | rfl | exact absurd rfl (h _) | exact absurd rfl h')
theorem Ik{v:Value}{a:AV}(h:bL w p g u v a)(hc:a.ec=Zn):(∀ dp,v ≠ .agg dp)/\v ≠ .nilIface:=by
 rcases h with rfl | (h | ⟨dp,cs,rfl,rfl,h⟩) | ⟨dp,cs,rfl,rfl,h⟩
 ·simp[AV.ec] at hc
 ·cases h with
  | jr h=>cases h<;>simp[lL]
  | ptr=>simp
  | jM=>simp
  | row hu hs=>obtain⟨a,l,c,e⟩:=hs;rw[e];simp
  | mp=>simp
  | b_ hu hs=>obtain⟨a,l,c,e⟩:=hs;rw[e];simp
  | ph=>simp
  | pX=>simp
  | pre=>simp
  | C5=>simp
  | zG=>simp
 ·simp[AV.ec] at hc
 ·simp[AV.ec] at hc
theorem T1{op:BinOp}{t:TypeId}{x y:Value}{a b v:AV}(hx:bL w p g u x a)(hy:bL w p g u y b)(h:nO op a b=Zz v)(ha:a.ec=Zn)
  (hb:∀ s r,x = .bool s->y = .bool r->P.underlying t=Zz .bool):∃ v',(binOp op t x y).run P w = .ok v' w/\cu w p v' v:=by
 unfold nO at h;split at h
 ·-- shl
  split at h
  ·rename_i k n m hm;obtain⟨rfl,hk⟩:=hx.int;obtain⟨k',rfl⟩:=vV hy hm;cases h0:Zw (0<=m) with
   | false=>simp[h0,aA] at h
   | true =>
    simp[h0,aA] at h;subst h;have:¬ m<0:=by simp at h0;omega
    exact⟨_,by simp[binOp,Op.shift,this],.int hk⟩
  ·rename_i n m hm;have e:=hx.u8;subst e;obtain⟨k',rfl⟩:=vV hy hm;cases h0:Zw (0<=m) with
   | false=>simp[h0,aA] at h
   | true =>
    simp[h0,aA] at h;subst h;have:¬ m<0:=by simp at h0;omega
    refine⟨_,?_,hF fun _=>wrap_u8 _⟩;simp[lL,binOp,Op.shift,this,IntKind.bits]
  ·cases h
 ·-- shr
  split at h
  ·rename_i k n m hm;obtain⟨rfl,hk⟩:=hx.int;obtain⟨k',rfl⟩:=vV hy hm;cases h0:Zw (0<=m) with
   | false=>simp[h0,aA] at h
   | true =>
    simp[h0,aA] at h;subst h;have:¬ m<0:=by simp at h0;omega
    exact⟨_,by simp[binOp,Op.shift,this],.int hk⟩
  ·rename_i n m hm;have e:=hx.u8;subst e;obtain⟨k',rfl⟩:=vV hy hm;cases h0:Zw (0<=m) with
   | false=>simp[h0,aA] at h
   | true =>
    simp[h0,aA] at h;subst h;have:¬ m<0:=by simp at h0;omega
    have hn:=n.toNat_lt;refine⟨_,?_,hF fun _=>Ta ⟨by omega,by omega⟩⟩;simp[lL,binOp,Op.shift,this,IntKind.bits]
  ·cases h
 ·-- add
  split at h
  ·rename_i s s';obtain⟨s,rfl,rfl⟩:=hx.str;obtain⟨s',rfl,rfl⟩:=hy.str;cases h0:Zw (s.data.toList.length+s'.data.toList.length<=4611686018427387904) with
   | false=>rw[h0] at h;cases h
   | true =>
    simp only[h0,aA,Qa6,Option.some.injEq] at h;subst h;have hle:s.size+s'.size<=4611686018427387904:=by simpa using Qa3 h0
    have:¬ ((s.size+s'.size:Nat):Int)>IntKind.i64.max:=by simp[IntKind.max,IntKind.signed,IntKind.bits];omega
    refine⟨.string (s++s'),?_,.str (by simp)⟩;simp only[binOp,Op.stringOp,this,if_false];rfl
  ·obtain⟨k,n,m,rfl,rfl,hk,hr⟩:=g9 hx hy h;cases hk;exact⟨_,by rw[fQ _ _ _ _ _ (by simp) (by simp)];simp[Op.intArith],hF fun e=>by subst e;exact wrap_u8 _⟩
 ·obtain⟨k,n,m,rfl,rfl,hk,hr⟩:=g9 hx hy h;cases hk;exact⟨_,by rw[fQ _ _ _ _ _ (by simp) (by simp)];simp[Op.intArith],hF fun e=>by subst e;exact wrap_u8 _⟩
 ·obtain⟨k,n,m,rfl,rfl,hk,hr⟩:=g9 hx hy h;cases hk;exact⟨_,by rw[fQ _ _ _ _ _ (by simp) (by simp)];simp[Op.intArith],hF fun e=>by subst e;exact wrap_u8 _⟩
 ·-- quo
  obtain⟨k,n,m,rfl,rfl,hk,hr⟩:=g9 hx hy h;cases h0:(m==0) with
  | true=>simp[h0,aA] at hk
  | false =>
   simp[h0,aA] at hk;subst hk;have:m≠0:=by simpa using h0
   exact⟨_,by rw[fQ _ _ _ _ _ (by simp) (by simp)];simp[Op.intDiv,this],hF fun e=>by subst e;exact wrap_u8 _⟩
 ·-- rem
  obtain⟨k,n,m,rfl,rfl,hk,hr⟩:=g9 hx hy h;cases h0:(m==0) with
  | true=>simp[h0,aA] at hk
  | false =>
   simp[h0,aA] at hk;subst hk;have:m≠0:=by simpa using h0
   exact⟨_,by rw[fQ _ _ _ _ _ (by simp) (by simp)];simp[Op.intDiv,this],hF fun e=>by subst e;exact ME (hr rfl).1⟩
 ·obtain⟨k,n,m,rfl,rfl,hk,hr⟩:=g9 hx hy h;cases hk;exact⟨_,by rw[fQ _ _ _ _ _ (by simp) (by simp)];rfl,hF fun e=>by subst e;exact wrap_u8 _⟩
 ·obtain⟨k,n,m,rfl,rfl,hk,hr⟩:=g9 hx hy h;cases hk;exact⟨_,by rw[fQ _ _ _ _ _ (by simp) (by simp)];rfl,hF fun e=>by subst e;exact wrap_u8 _⟩
 ·obtain⟨k,n,m,rfl,rfl,hk,hr⟩:=g9 hx hy h;cases hk;exact⟨_,by rw[fQ _ _ _ _ _ (by simp) (by simp)];rfl,hF fun e=>by subst e;exact wrap_u8 _⟩
 ·-- lss
  split at h
  ·obtain⟨s,rfl,rfl⟩:=hx.str;obtain⟨s',rfl,rfl⟩:=hy.str;cases h;exact⟨_,by simp[binOp,Op.stringOp,Lib.toList_data],.bool⟩
  ·obtain⟨k,n,m,rfl,rfl,hk,hr⟩:=g9 hx hy h;cases hk;exact⟨_,by rw[fQ _ _ _ _ _ (by simp) (by simp)];rfl,.bool⟩
 ·split at h
  ·obtain⟨s,rfl,rfl⟩:=hx.str;obtain⟨s',rfl,rfl⟩:=hy.str;cases h;exact⟨.bool _,by simp only[binOp,Op.stringOp,Lib.toList_data];rfl,.bool⟩
  ·obtain⟨k,n,m,rfl,rfl,hk,hr⟩:=g9 hx hy h;cases hk;exact⟨_,by rw[fQ _ _ _ _ _ (by simp) (by simp)];rfl,.bool⟩
 ·-- gtr
  split at h
  ·obtain⟨s,rfl,rfl⟩:=hx.str;obtain⟨s',rfl,rfl⟩:=hy.str;cases h;exact⟨.bool _,by simp only[binOp,Op.stringOp,Lib.toList_data];rfl,.bool⟩
  ·obtain⟨k,n,m,rfl,rfl,hk,hr⟩:=g9 hx hy h;cases hk;exact⟨_,by rw[fQ _ _ _ _ _ (by simp) (by simp)];rfl,.bool⟩
 ·split at h
  ·obtain⟨s,rfl,rfl⟩:=hx.str;obtain⟨s',rfl,rfl⟩:=hy.str;cases h;exact⟨.bool _,by simp only[binOp,Op.stringOp,Lib.toList_data];rfl,.bool⟩
  ·obtain⟨k,n,m,rfl,rfl,hk,hr⟩:=g9 hx hy h;cases hk;exact⟨_,by rw[fQ _ _ _ _ _ (by simp) (by simp)];rfl,.bool⟩
 ·-- eql
  split at h
  ·simp[AV.ec] at ha
  ·cases hc:mU a b with
   | none=>simp[hc] at h
   | some c =>
    simp[hc] at h;subst h;exact⟨_,(z7 hx hy hc hb).1,.bool⟩
 ·split at h
  ·simp[AV.ec] at ha
  ·cases hc:mU a b with
   | none=>simp[hc] at h
   | some c =>
    simp[hc] at h;subst h;exact⟨_,(z7 hx hy hc hb).2,.bool⟩
 ·cases h
theorem Ys{op:UnOp}{x:Value}{a v:AV}(hx:bL w p g u x a)(h:Ws op a=Zz v):∃ v',(Op.unary op x).run P w = .ok v' w/\cu w p v' v:=by
 unfold Ws at h;split at h
 ·have e:=hx.bool;subst e;cases h;exact⟨_,rfl,.bool⟩
 ·obtain⟨rfl,hk⟩:=hx.int;cases h;exact⟨_,by simp[Op.unary,Op.intArith],.int hk⟩
 ·cases h
end
end Go.Abs
/- Values that go out of a frame; stores. -/
namespace Go.Abs
section
variable {P:Program} {B:Nat} {M:Nat->Prop} {w0:World} {p0:bP} {w:World} {p:bP} {g:Nat->Value}
theorem cE.relabel{st:Nat->bT}(h:cE B M w0 p0 w p g st){k:Nat}{b:bT}{p':bP}(hk:(st k).live)(hb:b.live)(hp:∀ β,cj (g k)≠Zz β->p' β=p β)
  (hle:∀ β,cj (g k)=Zz β->p β<=p' β) (hB0:∀ β,cj (g k)=Zz β->β<B->M β/\p' β=p β)
  (hB:dr w p g (used st) w p' g (used (dd st k b))->nM w p' g (used (dd st k b)) B M k b) :
  cE B M w0 p0 w p' g (dd st k b)/\dr w p g (used st) w p' g (used (dd st k b)):=by
 have Nf:b ≠ .free:=fun e=>by rw[e] at hb;exact hb
 have hu:∀ j,used st j->used (dd st k b) j:=fun j hj=>qT Nf hj;have u5:∀ β,p β<=p' β:=fun β=>by
  by_cases e:cj (g k)=Zz β
  ·exact hle β e
  ·rw[hp β e];exact Zd _
 refine h.change rfl rfl rfl (Zd _) (fun j=>j=k) (fun β=>cj (g k)=Zz β) (fun j hj=>cl _ _ hj) hu (fun _ _=>rfl) (fun β _ hd=>⟨rfl,hp β hd⟩) (fun β hd hlB=>hB0 β hd hlB) u5 (fun _ _ _=>rfl) ?_ ?_ ?_ ?_
 ·intro β hβ;rw[hp β (fun e=>by have:=(h.lR k).wa hk e;omega)];exact h.nt β hβ
 ·intro j β hj hl hv hd;exact h.ue j k β hj hl hk hv hd
 ·rintro j rfl;rw[aW];exact hB ⟨u5,fun _ _ _=>rfl,fun _ _=>rfl,hu⟩
 ·rintro j j' β rfl ic _ tU LU nI;rw[cl _ _ ic] at tU;exact h.ue j j' β (Ne.symm ic) hk tU LU nI
def raise(p:bP)(o:Option Nat)(n:Nat):bP:=fun β=>if o=Zz β then n else p β
theorem gN{p:bP}{o:Option Nat}{n β:Nat}(h:o=Zz β):raise p o n β=n:=by simp[raise,h]
theorem nA{p:bP}{o:Option Nat}{n β:Nat}(h:o≠Zz β):raise p o n β=p β:=by simp[raise,h]
theorem Q2{st:Nat->bT}(h:cE B M w0 p0 w p g st){k e:Nat}{l:List UInt8}{iP:Bool}(hk:st k = .fu e l iP) :
  ∃ p',cE B M w0 p0 w p' g (dd st k (.fu e l Zn))/\dr w p g (used st) w p' g (used (dd st k (.fu e l Zn)))/\cu w p' (g k) (.bs l):=by
 have hb:=h.lR k;rw[hk] at hb;obtain⟨b_,hp⟩:=hb;have hB:∀ β,cj (g k)=Zz β->B<=β:=fun β hv=>by
  obtain⟨_,⟨_,a,hg⟩ | ⟨β',cap,kG,hg,h0,hB,_⟩⟩:=b_
  ·rw[hg] at hv;cases a<;>simp[cj] at hv
  ·rw[hg] at hv;have:β'=β:=by simp[cj] at hv;exact hv.2
   omega
 obtain⟨hs,hm⟩:=h.relabel (k:=k) (b := .fu e l Zn) (p':=raise p (cj (g k)) l.length) (by rw[hk];trivial) trivial (fun β hv=>nA hv)
  (fun β hv=>by rw[gN hv];exact(hp β hv).1) (fun β hv gO=>by have:=hB β hv;omega)
  (fun hm=>⟨b_,fun β hv=>⟨by rw[gN hv];exact Zd _,fun e=>by cases e⟩⟩)
 refine⟨_,hs,hm,?_⟩;obtain⟨hlen,⟨hn,a,hg⟩ | ⟨β,cap,kG,hg,h0,hB',hh,uj,yV,hcs,gH⟩⟩:=b_
 ·have:l=[]:=Yz hn;subst this;rw[hg];exact .bs 0 0 rfl (Zd _) (.inl rfl) (fun i b hi=>by simp at hi)
 ·rw[hg];refine .bs β 0 rfl uj (.inr rfl) fun i b hi=>⟨?_,?_⟩
  ·rw[gN (by simp[cj];omega)];have:=(Zq.1 hi).1;omega
  ·rw[ff hh];have h1:(l.map lL)[i]? = Zz (lL b):=by simp[hi]
   rw[<-gH,Zk] at h1;split at h1
   ·simpa using h1
   ·cases h1
theorem Q3{st:Nat->bT}(h:cE B M w0 p0 w p g st){k e z:Nat}{l:List AV}{iP:Bool}(hk:st k = .c6 e z l iP) :
  ∃ p',cE B M w0 p0 w p' g (dd st k (.c6 e z l Zn))/\dr w p g (used st) w p' g (used (dd st k (.c6 e z l Zn)))/\cu w p' (g k) (.sl z l):=by
 have hb:=h.lR k;rw[hk] at hb;obtain⟨hz,gh,vs,b_,dR,hp⟩:=hb;have hB:∀ β,cj (g k)=Zz β->B<=β:=fun β hv=>by
  obtain⟨_,⟨_,a,hg⟩ | ⟨β',cap,kG,hg,h0,hB,_⟩⟩:=b_
  ·rw[hg] at hv;cases a<;>simp[cj] at hv
  ·rw[hg] at hv;have:β'=β:=by simp[cj] at hv;exact hv.2
   omega
 obtain⟨hs,hm⟩:=h.relabel (k:=k) (b := .c6 e z l Zn) (p':=raise p (cj (g k)) (l.length*z)) (by rw[hk];trivial) trivial (fun β hv=>nA hv)
  (fun β hv=>by rw[gN hv];exact(hp β hv).1) (fun β hv gO=>by have:=hB β hv;omega)
  (fun hm=>⟨hz,gh,vs,b_,dR.imp fun _ _=>hm.wg,fun β hv=>⟨by rw[gN hv];exact Zd _,fun e=>by cases e⟩⟩)
 refine⟨_,hs,hm,?_⟩;have hfl:=kY gh;obtain⟨hlen,⟨hn,a,hg⟩ | ⟨β,cap,kG,hg,h0,hB',hh,uj,yV,hcs,gH⟩⟩:=b_
 ·have:l=[]:=Yz hn;subst this;rw[hg];exact .sl 0 0 (fun _=>undef) rfl (Zd _) (fun _ h=>by cases h) (.inl rfl) (fun i b hi=>by simp at hi) (fun i b hi=>by simp at hi)
 ·have J7:=dR.imp fun v c Nt=>hm.wg Nt;rw[hg] at J7 ⊢;refine .sl β 0 (fun j=>vs.getD j undef) rfl uj gh (.inr rfl) (fun j c hj=>⟨?_,?_⟩) (fun j c hj=> ?_)
  ·rw[gN (by simp[cj];omega)];have:=(Zq.1 hj).1;omega
  ·obtain⟨v,hv,_⟩:=J7.get hj;rw[ff hh];have h1:=hv;rw[<-gH,Zk] at h1;split at h1
   ·simp[hv];simpa using h1
   ·cases h1
  ·obtain⟨v,hv,hr⟩:=J7.get hj;simp[hv];exact hr
def kF(w:World)(p:bP)(v:Value)(a:AV):Prop:=cu w p v a\/∃ dp cs,v = .agg dp/\a = .agg cs/\bp (cu w p) dp.toList cs
theorem kF.v{u:Nat->Prop}{v:Value}{a:AV}(h:kF w p v a):bL w p g u v a:=by
 rcases h with h | ⟨dp,cs,rfl,rfl,h⟩
 ·exact h.v
 ·exact .inr (.inl (.inr ⟨dp,cs,rfl,rfl,h.imp fun _ _ => .jr⟩))
theorem kF.mono{w':World}{p':bP}(hp:∀ β,p β<=p' β)(hc:∀ β i,i<p β->w'.cell? ⟨β,i,none⟩=w.cell? ⟨β,i,none⟩){v:Value}{a:AV}(h:kF w p v a):kF w' p' v a:=by
 rcases h with h | ⟨dp,cs,rfl,rfl,h⟩
 ·exact .inl (h.mono hp hc)
 ·exact .inr ⟨dp,cs,rfl,rfl,h.imp fun _ _ hh=>hh.mono hp hc⟩
theorem kF.cells{v:Value}{a:AV}(h:kF w p v a):bp (cu w p) v.cells.toList a.cells:=by
 rcases h with h | ⟨dp,cs,rfl,rfl,h⟩
 ·rw[h.wk.1,h.wk.2.2.1];exact .cons h .nil
 ·exact h
def kN(st st':Nat->bT):Prop:=(∀ b cs,st b = .cells cs->st' b = .cells cs)/\∀ b e z l,st b = .jo e z l->st' b = .jo e z l
theorem kN.refl{st:Nat->bT}:kN st st:=⟨fun _ _ h=>h,fun _ _ _ _ h=>h⟩
theorem kN.trans{a b c:Nat->bT}(h:kN a b)(k:kN b c):kN a c:=⟨fun x cs hx=>k.1 x cs (h.1 x cs hx),fun x e z l hx=>k.2 x e z l (h.2 x e z l hx)⟩
theorem kN.dd{st:Nat->bT}{r:Nat}{x:bT}(h:∀ cs,st r ≠ .cells cs)(h2:∀ e z l,st r ≠ .jo e z l):kN st (Abs.dd st r x) :=
 ⟨fun b cs hb=>by rw[cl _ _ (fun e=>by subst e;exact h cs hb)];exact hb,fun b e z l hb=>by rw[cl _ _ (fun q=>by subst q;exact h2 e z l hb)];exact hb⟩
theorem vW{α:Type}{st:Nat->bT}(h:cE B M w0 p0 w p g st){c:CT}{x:Value}{v:AV}(hx:bL w p g (used st) x v){k:AV->(Nat->bT)->FP->Option α}{r:α}(hk:Cb c v st k=Zz r) :
  ∃ a st' fp p',k a st' fp=Zz r/\cE B M w0 p0 w p' g st'/\dr w p g (used st) w p' g (used st')/\cu w p' x a/\kN st st':=by
 unfold Cb at hk;split at hk
 ·obtain⟨a,rfl⟩:=hx.bY;exact⟨_,_,_,p,hk,h,dr.refl,.bs 0 0 rfl (Zd _) (.inl rfl) (fun i b hi=>by simp at hi),kN.refl⟩
 ·obtain⟨a,rfl⟩:=hx.bY;exact⟨_,_,_,p,hk,h,dr.refl,.sl 0 0 (fun _=>undef) rfl (Zd _) (fun _ h=>by cases h) (.inl rfl) (fun i b hi=>by simp at hi) (fun i b hi=>by simp at hi),kN.refl⟩
 ·rename_i r';obtain⟨hu,rfl,_⟩:=hx.row;split at hk
  ·rename_i e l iP dH;obtain⟨p',hs,hm,hr⟩:=Q2 h dH;exact⟨_,_,_,p',hk,hs,hm,hr,kN.dd (fun cs e=>by rw[dH] at e;cases e) (fun e z l q=>by rw[dH] at q;cases q)⟩
  ·rename_i e z l iP dH;obtain⟨p',hs,hm,hr⟩:=Q3 h dH;exact⟨_,_,_,p',hk,hs,hm,hr,kN.dd (fun cs e=>by rw[dH] at e;cases e) (fun e z l q=>by rw[dH] at q;cases q)⟩
  ·cases hk
 ·obtain⟨rfl,hn⟩:=hx.int;exact⟨_,_,_,p,hk,h,dr.refl,.int hn,kN.refl⟩
 ·have e:=hx.u8;subst e;exact⟨_,_,_,p,hk,h,dr.refl,.u8,kN.refl⟩
 ·have e:=hx.bool;subst e;exact⟨_,_,_,p,hk,h,dr.refl,.bool,kN.refl⟩
 ·obtain⟨s,rfl,hs⟩:=hx.str;exact⟨_,_,_,p,hk,h,dr.refl,.str hs,kN.refl⟩
 ·exact⟨_,_,_,p,hk,h,dr.refl,hx.bs,kN.refl⟩
 ·exact⟨_,_,_,p,hk,h,dr.refl,hx.sl,kN.refl⟩
 ·have:cu w p x .mh:=by
   rcases hx with hx | (hx | ⟨dp,cs,_,hx,_⟩) | ⟨dp,cs,_,hx,_⟩<;>first | cases hx
   assumption
  exact⟨_,_,_,p,hk,h,dr.refl,this,kN.refl⟩
 ·exact⟨_,_,_,p,hk,h,dr.refl,hx.jV,kN.refl⟩
 ·cases hk
theorem CH{α:Type}{st:Nat->bT}(h:cE B M w0 p0 w p g st){c:CT}{x:Value}{v:AV}(hx:bL w p g (used st) x v){k:AV->(Nat->bT)->FP->Option α}{r:α}(hk:Cb c v st k=Zz r) :
  ∃ a st' fp p',k a st' fp=Zz r/\cE B M w0 p0 w p' g st'/\dr w p g (used st) w p' g (used st')/\cu w p' x a:=by
 obtain⟨a,st',fp,p',h1,h2,h3,h4,_⟩:=vW h hx hk;exact⟨a,st',fp,p',h1,h2,h3,h4⟩
theorem qP{α:Type}:∀ {ia:List CT} {vs:List AV} {xs:List Value} {st:Nat->bT} {p:bP},cE B M w0 p0 w p g st->bp (dh w p g (used st)) xs vs->∀ {k:List AV->(Nat->bT)->FP->Option α} {r:α},
  nS ia vs st k=Zz r->∃ as st' fp p',k as st' fp=Zz r/\cE B M w0 p0 w p' g st'/\dr w p g (used st) w p' g (used st')/\bp (cu w p') xs as/\kN st st'
 | [],[],xs,st,p,h,hx,k,r,hk=>by
  simp only[nS] at hk;have:=hx.jw;subst this;exact⟨_,_,_,p,hk,h,dr.refl,.nil,kN.refl⟩
 | c::cs,v::vs,xs,st,p,h,hx,k,r,hk=>by
  simp only[nS] at hk;obtain⟨x,OZ,rfl,h1,h2⟩:=hx.ij;obtain⟨a,cY,f1,p1,cL,lk,l_,qX,AH⟩:=vW h h1.v hk;obtain⟨as,cF,f2,p2,bG,gX,na,n7,BD⟩:=qP lk (h2.imp fun _ _=>l_.Dy) cL;exact⟨_,_,_,p2,bG,gX,l_.trans na,.cons (na.wg qX) n7,AH.trans BD⟩
 | [],_::_,_,_,_,_,_,_,_,hk=>by simp[nS] at hk
 | _::_,[],_,_,_,_,_,_,_,hk=>by simp[nS] at hk
theorem yu{α:Type}{st:Nat->bT}(h:cE B M w0 p0 w p g st){i:TI}{x:Value}{v:AV}(hx:bL w p g (used st) x v){k:AV->(Nat->bT)->FP->Option α}{r:α}(hk:out i v st k=Zz r) :
  ∃ a st' fp p',k a st' fp=Zz r/\cE B M w0 p0 w p' g st'/\dr w p g (used st) w p' g (used st')/\kF w p' x a/\kN st st':=by
 unfold out at hk;split at hk
 ·obtain⟨dp,rfl,hc⟩:=hx.agg;obtain⟨as,st',fp,p',qW,hs,hm,hr,hp⟩:=qP h hc hk;exact⟨_,_,_,p',qW,hs,hm,.inr ⟨dp,as,rfl,rfl,hr⟩,hp⟩
 ·split at hk
  ·obtain⟨a,st',fp,p',qW,hs,hm,hr,hp⟩:=vW h hx hk;exact⟨_,_,_,p',qW,hs,hm,.inl hr,hp⟩
  ·cases hk
 ·cases hk
theorem AY{α:Type}{st:Nat->bT}(h:cE B M w0 p0 w p g st){i:TI}{x:Value}{v:AV}(hx:bL w p g (used st) x v){k:AV->(Nat->bT)->FP->Option α}{r:α}(hk:out i v st k=Zz r) :
  ∃ a st' fp p',k a st' fp=Zz r/\cE B M w0 p0 w p' g st'/\dr w p g (used st) w p' g (used st')/\kF w p' x a:=by
 obtain⟨a,st',fp,p',h1,h2,h3,h4,_⟩:=yu h hx hk;exact⟨a,st',fp,p',h1,h2,h3,h4⟩
def Gy(B:Nat)(M:Nat->Prop)(w0:World)(p0:bP)(w:World)(p:bP)(g:Nat->Value)(st:Nat->bT)(st':Nat->bT)(r:Result Unit):Prop :=
 ∃ w' p' g',r = .ok () w'/\cE B M w0 p0 w' p' g' st'/\dr w p g (used st) w' p' g' (used st')
theorem Om{β:Type}(c:List β)(j:Nat)(x:β)(h:j<c.length):c.take j++[x]++c.drop (j+1)=c.set j x:=by
 rw[List.set_eq_take_append_cons_drop,Qa1 h];simp
theorem re{R:Value->AV->Prop}{vs us:List Value}{cs ds:List AV}(h:bp R vs cs)(k:bp R us ds)(off:Nat) :
  bp R (vs.take off++us++vs.drop (off+us.length)) (place cs off ds):=by
 unfold place;rw[k.len];exact((h.take off).append k).append (h.drop _)
theorem pZ{t:Nat}{i:TI}(hi:fl P t=Zz i){β off:Nat}{c:Array Value}{e:TypeId}(hh:w.heap[β]? = Zz (.cells c e (0,0))){v:Value}(hl:v.cells.size=i.size)(Ao:off+i.size<=c.size)
  (h1:∀ x∈v.cells.toList,x.oneCell'=Zn) :
  (storeVar t ⟨β,off,none⟩ v).run P w = .ok () (w.setRow β (c.toList.take off++v.cells.toList++c.toList.drop (off+v.cells.toList.length)).toArray):=by
 obtain⟨info,z,a1,a2,a3,a4,a5,a6,a7,a8,a9,_⟩:=bM hi;have dH:=run_storeCells_at (P:=P) β off e v.cells.toList 0 c w hh (by simp;omega) h1;simp only[Nat.add_zero] at dH;simp[storeVar,run_sizeOf a1,a2,hl,dH]
theorem Kx(a b:List AV)(off:Nat)(n:List AV)(h:off+n.length<=a.length):place (a++b) off n=place a off n++b:=by grind [place]
theorem Ic(a b:List AV)(q:Nat)(n:List AV):place (a++b) (a.length+q) n=a++place b q n:=by
 unfold place;rw[List.take_append,List.drop_append,List.take_of_length_le (by omega),List.drop_of_length_le (by omega)];rw[show a.length+q-a.length=q by omega,show a.length+q+n.length-a.length=q+n.length by omega];simp
theorem Bu{sz off:Nat}{news:List AV}:∀ {els:List AV} {j:Nat} {x x':AV},els[j]? = Zz x->(∀ y∈els,y.cells.length=sz)->x'.cells=place x.cells off news->off+news.length<=sz ->
  (els.set j x').flatMap AV.cells=place (els.flatMap AV.cells) (j*sz+off) news
 | [],j,x,x',h,_,_,_=>by simp at h
 | y::r,0,x,x',h,hs,hx,hf=>by
  simp at h;subst h;have hy:=hs y (by simp);rw[List.set_cons_zero,Zg,Zg,hx,Nat.zero_mul,Nat.zero_add,Kx _ _ _ _ (by omega)]
 | y::r,j+1,x,x',h,hs,hx,hf=>by
  simp at h;have hy:=hs y (by simp);have ih:=Bu h (fun z hz=>hs z (by simp[hz])) hx hf;rw[List.set_cons_succ,Zg,Zg,ih];rw[show(j+1)*sz+off=y.cells.length+(j*sz+off) by rw[hy,Yy];omega,Ic]
theorem yh(cs:List AV)(off:Nat)(n:List AV)(h:off+n.length<=cs.length):(place cs off n).length=cs.length:=by
 unfold place;simp;omega
theorem yA{c:List Value}{n q:Nat}{us:List Value}(h:q+us.length<=n)(hn:n<=c.length):(c.take q++us++c.drop (q+us.length)).take n=(c.take n).take q++us++(c.take n).drop (q+us.length):=by
 apply List.ext_getElem?;intro i;simp only[Zk,List.getElem?_append,Yx,List.length_append,List.length_take];by_cases h1:i<n
 ·by_cases h2:i<q
  ·have e1:i<min q c.length+us.length:=by omega
   have e2:i<min q c.length:=by omega
   have e3:i<min q (min n c.length)+us.length:=by omega
   have e4:i<min q (min n c.length):=by omega
   simp[h1,h2,e1,e2,e3,e4]
  ·by_cases h3:i<q+us.length
   ·have e1:i<min q c.length+us.length:=by omega
    have e2:¬ i<min q c.length:=by omega
    have e3:i<min q (min n c.length)+us.length:=by omega
    have e4:¬ i<min q (min n c.length):=by omega
    simp[h1,e1,e2,e3,e4];congr 1;omega
   ·have e1:¬ i<min q c.length+us.length:=by omega
    have e3:¬ i<min q (min n c.length)+us.length:=by omega
    have e5:q+us.length+(i-(min q (min n c.length)+us.length))<n:=by omega
    simp[h1,e1,e3];rw[Qa1 (by omega)];congr 1;omega
 ·have e1:¬ i<min q (min n c.length)+us.length:=by omega
  simp[h1,e1];intro h5;omega
theorem Ix{α:Type}{E:Env}(fo:∀ t i,E.ty t=Zz i->fl P t=Zz i){fr:Fr}{t:Nat}{i:TI}(hi:fl P t=Zz i)(h:cE B M w0 p0 w p g fr.st){x y:Value}{a b:AV}(hx:bL w p g (used fr.st) x a)(hy:bL w p g (used fr.st) y b){k:lH α}{r:α}
  (hk:ou E fr i a b k=Zz r):∃ st' fp,k .undef st' fp=Zz r/\Gy B M w0 p0 w p g fr.st st' ((Instr.storeAt t x y).run P w):=by
 unfold ou at hk;simp only[nZ] at hk;split at hk
 ·rename_i kk off;obtain⟨hu,β,hg,rfl⟩:=hx.ptr;have hb:=h.lR kk;split at hk
  ·rename_i cs dH;rw[dH] at hb;obtain⟨β',c,e,h1,h2,h3,h4,h5⟩:=hb;have:β'=β:=by rw[h1] at hg;cases hg;rfl
   subst this;obtain⟨eg,bG⟩:=dc hk;simp only[Zp,Qb1] at eg;obtain⟨⟨hlen,Ao⟩,hcell⟩:=eg;have rY:off+i.size<=cs.length:=Zu Ao;have hyc:=hy.cells hcell;rw[vT _ _ _ (by rw[hlen];exact rY)] at bG;refine⟨_,_,bG,?_⟩;have gh:y.cells.size=i.size:=by have:=hyc.len;simp at this;omega
   have ala:c.size=cs.length:=by have:=h4.len;simpa using this
   have eD:=pZ (P:=P) (w:=w) hi h3 (v:=y) (off:=off) gh (by omega) hyc.one;obtain⟨hs,hm⟩:=h.modify (k:=kk) (b := .cells (place cs off b.cells)) (w':=w.setRow β' (c.toList.take off++y.cells.toList++c.toList.drop (off+y.cells.toList.length)).toArray) (p':=p) (β₀:=β') (by rw[dH];trivial) trivial (by rw[h1];rfl)
    rfl rfl rfl (by simp) (fun β ic=>⟨setRow_other w β' β _ ic,rfl⟩) (fun gO=>⟨by rcases h2 with h2 | h2;exact h2;omega,rfl⟩) (Zd _) (fun i hi=>by rw[h5] at hi;omega)
    (fun hm=>⟨β',_,e,h1,h2,setRow_heap w β' c _ e _ h3,by
     have:=re h4 hyc off;simpa using this.imp fun _ _=>hm.Dy,h5⟩)
   exact⟨_,p,g,by simpa [Instr.storeAt,Instr.sureAddr] using eD,hs,hm⟩
  ·cases hk
 ·rename_i kk j sz off;obtain⟨hu,β,hg,rfl⟩:=hx.jM;have hb:=h.lR kk;have key:∀ (l:List UInt8) (c:Array Value) (e:TypeId) (n:Nat) (iP:Bool) (mk:List UInt8->bT),w.heap[β]? = Zz (.cells c e (0,0))->c.toList.take n=l.map lL->(iP=Zv->p β=0)->B<=β->(fr.st kk).live->(∀ l,(mk l).live) ->
    (∀ (xb:UInt8),j<l.length->iP=Zv->∀ (w':World),w'.heap[β]? = Zz (.cells (c.toList.set j (lL xb)).toArray e (0,0))->∀ u',nM w' p g u' B M kk (mk (l.set j xb))) ->
    (b.qJ fun x=>aA (Zj j l.length&&Zy off 0&&Zy sz 1&&Zy i.size 1 && !iP) (k .undef (dd fr.st kk (mk (l.set j x))) ⟨[kk],[kk]⟩))=Zz r ->
    ∃ st' fp,k .undef st' fp=Zz r/\Gy B M w0 p0 w p g fr.st st' ((Instr.storeAt t (.pointer (Zz ⟨β,j*sz+off,none⟩)) y).run P w):=by
   intro l c e n iP mk hh gH hp Td xT W0 afy bG;unfold AV.qJ at bG;split at bG
   ·rename_i _ xb;have hyv:=hy.u8;subst hyv;obtain⟨eg,dt⟩:=aI bG;simp only[Zp,Bool.not_eq_true'] at eg;obtain⟨⟨⟨⟨hj,ho⟩,hs⟩,lk⟩,FC⟩:=eg;have gO:j<l.length:=Zu hj;have gh:i.size=1:=Zx lk;have Qd:=Zx ho;have hs':=Zx hs;subst Qd;subst hs';subst FC;have hjc:j<c.size:=by
     have:=Qb5 List.length gH;simp at this;omega
    have eD:=pZ (P:=P) (w:=w) hi hh (v:=lL xb) (off:=j) (by simp[lL,Value.cells,gh]) (by omega) (fun x hx=>by simp[lL,Value.cells] at hx;subst hx;rfl);refine⟨_,_,dt,?_⟩;have dR:(lL xb).cells.toList=[lL xb]:=rfl;rw[dR] at eD;simp only[List.length_singleton] at eD;rw[Om _ _ _ (by simpa using hjc)] at eD;obtain⟨hs,hm⟩:=h.modify (k:=kk) (b:=mk (l.set j xb)) (w':=w.setRow β (c.toList.set j (lL xb)).toArray) (p':=p) (β₀:=β) xT (W0 _) hg
     rfl rfl rfl (by simp) (fun β' ic=>⟨setRow_other w β β' _ ic,rfl⟩) (fun gO=>by omega) (Zd _) (fun i hi=>by rw[hp rfl] at hi;omega)
     (fun hm=>afy xb gO rfl _ (setRow_heap w β c _ e _ hh) _)
    exact⟨_,p,g,by simpa [Instr.storeAt,Instr.sureAddr] using eD,hs,hm⟩
   ·cases bG
  split at hk
  ·rename_i e l iP dH;rw[dH] at hb;obtain⟨⟨hlen,⟨hn,a,hv⟩ | ⟨β',cap,kG,hv,h0,hB,hh,uj,yV,hcs,gH⟩⟩,hp⟩:=hb
   ·rw[hv] at hg;cases a<;>simp[cj] at hg
   ·have PZ:β'=β:=by rw[hv] at hg;simp[cj] at hg;exact hg.2
    subst PZ;refine key l kG e _ iP (fun l => .fu e l Zv) hh gH ((hp β' hg).2) hB (by rw[dH];trivial) (fun _=>trivial) ?_ hk;intro xb gO FC w' Qn u';refine⟨⟨by simp,.inr ⟨β',cap,_,hv.trans (by simp),h0,hB,Qn,by simpa using uj,yV,?_,?_⟩⟩,fun β nI=> ?_⟩
    ·simpa using hcs
    ·simp only[List.length_set];rw[List.take_set,gH,List.map_set]
    ·rw[hg] at nI;cases nI;exact⟨by rw[(hp β' hg).2 FC];exact Nat.zero_le _,fun _=>(hp β' hg).2 FC⟩
  ·rename_i l iP dH;rw[dH] at hb;obtain⟨β',c,e,h1,h2,h3,h4,h5,h6⟩:=hb;have PZ:β'=β:=by rw[h1] at hg;simp[cj] at hg;exact hg
   subst PZ;refine key l c e c.size iP (fun l => .jJ l Zv) h3 (by rw[List.take_of_length_le (by simp)];exact h4) h6 h2 (by rw[dH];trivial) (fun _=>trivial) ?_ hk;intro xb gO FC w' Qn u';refine⟨β',_,e,h1,h2,Qn,?_,by rw[h6 FC];exact Nat.zero_le _,fun _=>h6 FC⟩;show c.toList.set j (lL xb)=_;rw[h4,List.map_set]
  ·rename_i e z l iP dH;split at hk
   ·rename_i ei ju;obtain⟨eg,bG⟩:=aI hk;simp only[Zp,Bool.not_eq_true'] at eg;obtain⟨⟨hj0,hz⟩,ajT⟩:=eg;have Qq:=Zx hz;subst Qq;obtain⟨v',cY,f1,p1,dt,lk,l_,qX⟩:=AY h hy bG;have vN:=lk.lR kk;split at dt
    ·rename_i e1 z1 l1 BF;have oC:=j6 dt;obtain⟨eg,yW⟩:=dc oC;simp only[Zp,Qb1] at eg;obtain⟨⟨⟨⟨Qa,Ao⟩,kZ⟩,Nw⟩,Zi⟩:=eg;have Xs:=Zx Nw;subst Xs;have rY:=Zu Ao;have zN:0<i.size:=Zu kZ;have Np:j<l1.length:=Zu Zi;rw[BF] at vN;obtain⟨yY,gh,vs,b_,dR,hp⟩:=vN;obtain⟨hlen,⟨hn,a,hv⟩ | ⟨β',cap,kG,hv,h0,hB,hh,uj,yV,hcs,gH⟩⟩:=b_
     ·omega
     ·have PZ:β'=β:=by rw[hv] at hg;simp[cj] at hg;exact hg.2
      subst PZ;have uY:l1[j]? = Zz (l1.getD j .undef):=by simp[Np]
      have hold:(l1.getD j .undef).cells.length=z1:=gh _ (List.mem_of_getElem? uY);have Nt:=qX.cells;have Qm:y.cells.toList.length=i.size:=by rw[Nt.len,Qa]
      have Hs:y.cells.size=i.size:=by simpa using Qm
      have Ts:=(hp β' hg).2 rfl;have Dh:(j+1)*z1<=l1.length*z1:=Zm z1 Np;rw[Yy] at Dh;have afG:l1.length*z1<=cap*z1:=Zm z1 uj;have eD:=pZ (P:=P) (w:=w) hi hh (v:=y) (off:=j*z1+off) Hs (by rw[hcs];omega) Nt.XP;obtain⟨info,z,a1,a2,a3,a4,a5,a6,a7,a8,a9,_⟩:=bM (fo _ _ ju);have Qo:(ua ei (l1.getD j .undef) off v'.cells).cells=place (l1.getD j .undef).cells off v'.cells:=by
       unfold ua;split
       ·rfl
       ·rename_i uf;have xn:=Ej dt uf;have hz1:z1=1:=by rw[<-hold,xn];rfl
        have BC:v'.cells.length=1:=by rw[xn] at rY;simp at rY;omega
        have ho0:off=0:=by rw[xn] at rY;simp at rY;omega
        obtain⟨c,Df⟩:=List.length_eq_one_iff.1 BC;rw[Df] at Nt ⊢;obtain⟨cv,_,_,P3,_⟩:=Nt.ij;rw[xn,ho0];simp[place,P3.wk.2.2.1]
      refine⟨_,_,yW,?_⟩;obtain⟨gX,na⟩:=lk.modify (k:=kk) (b := .c6 e1 z1 (l1.set j (ua ei (l1.getD j .undef) off v'.cells)) Zv) (w':=w.setRow β' (kG.toList.take (j*z1+off)++y.cells.toList++kG.toList.drop (j*z1+off+y.cells.toList.length)).toArray) (p':=p1) (β₀:=β')
       (by rw[BF];trivial) trivial hg rfl rfl rfl (by simp) (fun β ic=>⟨setRow_other w β' β _ ic,rfl⟩) (fun gO=>by omega) (Zd _) (fun q hq=>by rw[Ts] at hq;omega)
       (fun hm=>by
        refine⟨yY,fun q hq=> ?_,vs.take (j*z1+off)++y.cells.toList++vs.drop (j*z1+off+y.cells.toList.length),⟨?_,.inr ⟨β',cap,_,hv.trans (by simp),h0,hB,setRow_heap w β' kG _ e1 _ hh,by simpa using uj,yV,?_,?_⟩⟩,?_,fun β nI=> ?_⟩
        ·rcases List.mem_or_eq_of_mem_set hq with hq | rfl
         ·exact gh q hq
         ·rw[Qo,yh _ _ _ (by rw[Qa];omega),hold]
        ·simp;omega
        ·simp;omega
        ·simp only[List.length_set];rw[yA (by omega) (by simp;omega),gH]
        ·rw[Bu uY gh Qo (by rw[Qa,<-hold];omega)];have:=re dR (Nt) (j*z1+off);exact this.imp fun _ _=>hm.wg
        ·rw[hg] at nI;cases nI;exact⟨by rw[Ts];exact Nat.zero_le _,fun _=>Ts⟩)
      exact⟨_,p1,g,by simpa [Instr.storeAt,Instr.sureAddr] using eD,gX,l_.trans na⟩
    ·cases dt
   ·cases hk
  ·rename_i e z l dH;split at hk
   ·rename_i ei ju;obtain⟨eg,bG⟩:=aI hk;simp only[Zp] at eg;obtain⟨hj0,hz⟩:=eg;have Qq:=Zx hz;subst Qq;obtain⟨v',cY,f1,p1,dt,lk,l_,qX⟩:=AY h hy bG;have vN:=lk.lR kk;split at dt
    ·rename_i e1 z1 l1 BF;have oC:=j6 dt;obtain⟨eg,yW⟩:=dc oC;simp only[Zp,Qb1] at eg;obtain⟨⟨⟨⟨Qa,Ao⟩,kZ⟩,Nw⟩,Zi⟩:=eg;have Xs:=Zx Nw;subst Xs;have rY:=Zu Ao;have zN:0<i.size:=Zu kZ;have Np:j<l1.length:=Zu Zi;rw[BF] at vN;obtain⟨β',cap,hv,hB,yY,gh,h0,uj,yV,Ts,kG,vs,hh,hcs,hlen,gH,dR⟩:=vN
     ·have PZ:β'=β:=by rw[hv] at hg;simp[cj] at hg;exact hg.2
      subst PZ;have uY:l1[j]? = Zz (l1.getD j .undef):=by simp[Np]
      have hold:(l1.getD j .undef).cells.length=z1:=gh _ (List.mem_of_getElem? uY);have Nt:=qX.cells;have Qm:y.cells.toList.length=i.size:=by rw[Nt.len,Qa]
      have Hs:y.cells.size=i.size:=by simpa using Qm
      have Dh:(j+1)*z1<=l1.length*z1:=Zm z1 Np;rw[Yy] at Dh;have afG:l1.length*z1<=cap*z1:=Zm z1 uj;have eD:=pZ (P:=P) (w:=w) hi hh (v:=y) (off:=j*z1+off) Hs (by rw[hcs];omega) Nt.XP;obtain⟨info,z,a1,a2,a3,a4,a5,a6,a7,a8,a9,_⟩:=bM (fo _ _ ju);have Qo:(ua ei (l1.getD j .undef) off v'.cells).cells=place (l1.getD j .undef).cells off v'.cells:=by
       unfold ua;split
       ·rfl
       ·rename_i uf;have xn:=Ej dt uf;have hz1:z1=1:=by rw[<-hold,xn];rfl
        have BC:v'.cells.length=1:=by rw[xn] at rY;simp at rY;omega
        have ho0:off=0:=by rw[xn] at rY;simp at rY;omega
        obtain⟨c,Df⟩:=List.length_eq_one_iff.1 BC;rw[Df] at Nt ⊢;obtain⟨cv,_,_,P3,_⟩:=Nt.ij;rw[xn,ho0];simp[place,P3.wk.2.2.1]
      refine⟨_,_,yW,?_⟩;obtain⟨gX,na⟩:=lk.modify (k:=kk) (b := .jo e1 z1 (l1.set j (ua ei (l1.getD j .undef) off v'.cells))) (w':=w.setRow β' (kG.toList.take (j*z1+off)++y.cells.toList++kG.toList.drop (j*z1+off+y.cells.toList.length)).toArray) (p':=p1) (β₀:=β')
       (by rw[BF];trivial) trivial hg rfl rfl rfl (by simp) (fun β ic=>⟨setRow_other w β' β _ ic,rfl⟩) (fun gO=>⟨hB.resolve_right (by omega),rfl⟩) (Zd _) (fun q hq=>by rw[Ts] at hq;omega)
       (fun hm=>by
        refine⟨β',cap,hv.trans (by simp),hB,yY,fun q hq=> ?_,h0,by simpa using uj,yV,Ts,_,vs.take (j*z1+off)++y.cells.toList++vs.drop (j*z1+off+y.cells.toList.length),setRow_heap w β' kG _ e1 _ hh,?_,?_,?_,?_⟩
        ·rcases List.mem_or_eq_of_mem_set hq with hq | rfl
         ·exact gh q hq
         ·rw[Qo,yh _ _ _ (by rw[Qa];omega),hold]
        ·simp;omega
        ·simp;omega
        ·simp only[List.length_set];rw[yA (by omega) (by simp;omega),gH]
        ·rw[Bu uY gh Qo (by rw[Qa,<-hold];omega)];have:=re dR (Nt) (j*z1+off);exact this.imp fun _ _=>hm.wg)
      exact⟨_,p1,g,by simpa [Instr.storeAt,Instr.sureAddr] using eD,gX,l_.trans na⟩
    ·cases dt
   ·cases hk
  ·cases hk
 ·cases hk
end
end Go.Abs
