/- The abstract interpreter: values, stores, operations, code. Plain definitions; nothing is claimed here. -/
import GoSem.Step
import Derived.Below
import Derived.Deep.AppendSrc
import Derived.Deep.LoopGhost
import Derived.Laws.IdiomStrings
import Derived.Lib.Strings
set_option linter.all false
open Option renaming some→Zz
open Nat renaming beq→Zy,eq_of_beq_eq_true→Zx,le_of_ble_eq_true→Zu,blt→Zk,le_refl→Zd,lt_of_lt_of_le→Zf,mul_le_mul_right→Zm,ble→Zh,add_mul→Yy
open Decidable renaming decide→Zw
open Bool renaming false→Zv,and_eq_true→Zp,true→Zn
open List renaming getElem?_eq_some_iff→Zq,getElem?_take→Zj,flatMap_cons→Zg,getElem?_eq_getElem→Zb,eq_nil_of_length_eq_zero→Yz,getElem?_drop→Yx
abbrev Qa0:=@if_neg
abbrev Qa1:=@if_pos
abbrev Qa2:=@decide_eq_true_eq
abbrev Qa3:=@of_decide_eq_true
abbrev Qa4:=@decide_eq_true
abbrev Qa5:=@cond_true
abbrev Qa6:=@cond_false
abbrev Qa7:=@and_true
abbrev Qa8:=@true_and
abbrev Qa9:=@eq_of_beq
abbrev Qb0:=@beq_iff_eq
abbrev Qb1:=@Eq.trans
abbrev Qb2:=@decide_true
abbrev Qb3:=@congrArg
namespace Kerb
def tY(n m:Int):Int:=if m<n then m else n
def imax(n m:Int):Int:=if m>n then m else n
end Kerb
namespace Go.Abs
inductive AV where
 | undef
 | int (k:IntKind) (n:Int)
 | u8 (b:UInt8)
 | bool (b:Bool)
 | str (s:List UInt8)
 | bs (l:List UInt8)
 | sl (sz:Nat) (els:List AV)
 | cJ
 | row (k:Nat)
 | ptr (k off:Nat)
 | jc (k i sz off:Nat)
 | jg (cs:List AV)
 | lN
 | agg (cs:List AV)
 | aQ (vs:List AV)
 | bE (l:List UInt8)
 | aF (els:List AV)
 | bA (k:Nat) (gB:List Nat)
 | pE (k off:Nat)
 | pre (k n:Nat)
 | DW (k m:Nat)
 | fn (f:Nat)
 | AB (f:Nat) (fs cs:List (Nat×Nat))
 | Dh
 | mp (k:Nat)
 | vJ
 | bz (k e sz:Nat)
inductive br where
 | free
 | dead
 | cells (cs:List AV)
 | h_ (l:List UInt8) (gC:Bool)
 | dX (e:Nat) (l:List UInt8) (gC:Bool)
 | cU (e sz:Nat) (els:List AV) (gC:Bool)
 | mO (str:Bool) (kd:IntKind) (els:List AV)
 | gU (e sz:Nat) (els:List AV)
inductive CT where
 | int (k:IntKind) | u8 | bool | str | ff | sl (sz:Nat) | ptr | other
inductive TK where
 | int (k:IntKind) | u8 | bool | str
 | slice (e:Nat) (byte:Bool)
 | cF (n e:Nat) (byte:Bool)
 | struct (fs:List (Nat×Nat))
 | ptr (e:Nat)
 | map (k e:Nat)
 | other
structure TI where
 size:Nat
 bytes:Nat
 kind:TK
 zero:List AV
 fX:List CT
 SJ:List CT
inductive KC where
 | kq (c:CT)
 | own (key e z:Nat) (byte:Bool)
 | qh (key:Nat) (str:Bool) (kd:IntKind)
inductive iy where
 | val (slot ty:Nat)
 | dX (slot e:Nat) (gC:Bool)
 | cU (slot e sz:Nat) (gC:Bool)
 | ptr (slot k off:Nat)
 | cells (k:Nat) (fX:List CT)
 | h_ (k:Nat) (gC:Bool)
 | bA (slot k:Nat) (gB:List Nat)
 | jz (k:Nat) (qA:List KC)
 | rowAt (k:Nat) (h:Bool) (e sz:Nat)
 | ga (slot k e sz:Nat)
abbrev aC:=List (List AV)
abbrev K2:=Nat->List AV->List (Nat×List AV)->Option (AV×aC)
structure Fr where
 aO:Nat->AV
 st:Nat->br
structure FP where
 rd:List Nat
 wr:List Nat
def FP.none:FP:=⟨[],[]⟩
abbrev j5(α:Type):=AV->(Nat->br)->FP->Option α
def merge(wr:List Nat)(s1 s2:Nat->br):Nat->br:=fun x=>if x∈wr then s1 x else s2 x
abbrev s9(A:Type):=(β:Type)->(Nat->br)->(A->(Nat->br)->FP->Option β)->Option β
structure Loc {A:Type} (T:s9 A) (st:Nat->br) (a:A) (st':Nat->br) (fp:FP):Prop where
 lR:∀ x,x ∉ fp.wr->st' x=st x
 run:∀ bL,(∀ x∈fp.rd,bL x=st x)->∀ β k2,T β bL k2=k2 a (merge fp.wr st' bL) fp
structure ar {A:Type} (T:s9 A):Prop where
 go:∀ {α:Type} {st:Nat->br} {k:A->(Nat->br)->FP->Option α} {r:α},T α st k=Zz r->∃ a st' fp,k a st' fp=Zz r/\Loc T st a st' fp
structure DZ where
 run:(α:Type)->Nat->List AV->(Nat->br)->j5 α->Option α
 loc:∀ kb args,ar (fun β s k=>run β kb args s k)
structure Env where
 ty:Nat->Option TI
 hJ:Nat->List iy
 own:Nat->Bool
 call:K2
 pd:Nat->Option (List AV)
 hand:List Nat
 kb:Nat
 inl:Nat->Option DZ
section
variable {α:Type}
def AV.ax(kd:IntKind)(v:AV)(f:Int->Option α):Option α:=match v with | .int k n=>bif k==kd then f n else none | _=>none
def AV.nW(v:AV)(f:UInt8->Option α):Option α:=match v with | .u8 b=>f b | _=>none
def AV.cR(v:AV)(f:Bool->Option α):Option α:=match v with | .bool b=>f b | _=>none
def AV.nj(v:AV)(f:Bool->Option α)(s:Option α):Option α:=match v with | .bool b=>f b | .aQ []=>s | _=>none
def AV.I1(v:AV)(f:Nat->List (Nat×Nat)->List (Nat×Nat)->Option α):Option α:=match v with | .fn n=>f n [] [] | .AB n a b=>f n a b | _=>none
def MW:List AV->Option (List (Nat×Nat))
 | []=>Zz []
 | .ptr k o::r=>(MW r).map ((k,o) :: ·)
 | _=>none
def ke(l:List (Nat×Nat)):List AV:=l.map fun x => .ptr x.1 x.2
def AV.gw(v:AV)(f:List UInt8->Option α):Option α:=match v with | .str s=>f s | _=>none
def AV.eH(v:AV)(f:List UInt8->Option α):Option α:=match v with | .bs l=>f l | _=>none
def AV.hO(sz:Nat)(v:AV)(f:List AV->Option α):Option α:=match v with | .sl z l=>bif Zy z sz then f l else none | _=>none
def AV.eu(v:AV)(f:List AV->Option α):Option α:=match v with | .agg l=>f l | _=>none
def AV.fI(v:AV)(f:List AV->Option α):Option α:=match v with | .aQ l=>f l | _=>none
def AV.eF(v:AV)(f:List UInt8->Option α):Option α:=match v with | .bE l=>f l | _=>none
def AV.aR(v:AV)(f:List AV->Option α):Option α:=match v with | .aF l=>f l | _=>none
def ay(l:List AV)(f:AV->List AV->Option α):Option α:=match l with | x::r=>f x r | []=>none
def aw(l:List AV)(f:Option α):Option α:=match l with | []=>f | _::_=>none
def az(b:Bool)(f:Option α):Option α:=cond b f none
def aD(b:Bool)(f g:Option α):Option α:=cond b f g
def aM(l:List (List AV))(f:Option α):Option α:=match l with | []=>f | _::_=>none
def aL(l:List (List AV))(f:List AV->List (List AV)->Option α):Option α:=match l with | x::r=>f x r | []=>none
end
def dI:List CT->List AV->Bool
 | [],[]=>Zn
 | .int k::cs,.int k' _::vs=>k==k'&&dI cs vs
 | .u8::cs,.u8 _::vs=>dI cs vs
 | .bool::cs,.bool _::vs=>dI cs vs
 | .str::cs,.str _::vs=>dI cs vs
 | _,_=>Zv
def AV.cells:AV->List AV
 | .agg cs=>cs
 | v=>[v]
def AV.dk:AV->Bool
 | .int .. | .u8 _ | .bool _ | .str _ | .bs _ | .sl .. | .cJ | .row _ | .ptr .. | .jc .. | .jg _ | .lN | .bA .. | .pE .. | .pre .. | .DW .. | .fn _ | .AB .. | .Dh | .mp _ | .vJ | .bz .. => Zn
 | _=>Zv
def mP(k:IntKind)(n:Int):AV:=match k with | .u8 => .u8 (UInt8.ofNat n.toNat) | k => .int k n
def Dk:Value->Option AV
 | .bool b=>Zz (.bool b)
 | .int k n=>match k with
  | .u8=>bif Zw (0<=n)&&Zw (n<256) then Zz (.u8 (UInt8.ofNat n.toNat)) else none
  | k=>Zz (.int k n)
 | .string s=>Zz (.str s.data.toList)
 | .slice none 0 0=>Zz .cJ
 | .pointer none=>Zz .lN
 | .map none=>Zz .Dh
 | .nilFunc=>Zz .vJ
 | _=>none
def ni:List Value->Option (List AV)
 | []=>Zz []
 | v::r=>match Dk v,ni r with | some a,Zz l=>Zz (a::l) | _,_=>none
def MN(v:Value):Option AV :=
 match v with
 | .agg cs=>(ni cs.toList).map .agg
 | v=>Dk v
def ll:AV->AV->Bool
 | .int a n,.int b m=>(a==b)&&(n==m)
 | .str a,.str b=>a==b
 | _,_=>Zv
def fm:AV->AV
 | .aQ (k::_)=>k
 | _ => .undef
def rz:AV->AV
 | .aQ [_,v]=>v
 | _ => .undef
def _root_.Kerb.nN(x:AV):List AV->Option AV
 | []=>none
 | e::r=>bif ll (fm e) x then Zz (rz e) else Kerb.nN x r
def _root_.Kerb.Wr(x:AV)(l:List AV):Bool:=(Kerb.nN x l).isSome
def _root_.Kerb.getM(x:AV)(l:List AV)(d:AV):AV:=(Kerb.nN x l).getD d
def _root_.Kerb.np(x v:AV):List AV->List AV
 | []=>[.aQ [x,v]]
 | e::r=>bif ll (fm e) x then .aQ [x,v]::r else e::Kerb.np x v r
def oz(str:Bool)(kd:IntKind)(v:AV):Bool:=match v with
 | .int k _ => !str&&k==kd
 | .str _=>str
 | _=>Zv
def vz(i:TI):Option (Bool×IntKind):=match i.kind with
 | .int k=>Zz (Zv,k)
 | .str=>Zz (Zn,.i64)
 | _=>none
section ops
variable {α:Type} (E:Env)
def fq(c:CT)(v:AV)(k:AV->Option α):Option α :=
 match c with
 | .int kd=>v.ax kd fun n=>k (.int kd n)
 | .u8=>v.nW fun b=>k (.u8 b)
 | .bool=>v.cR fun b=>k (.bool b)
 | .str=>v.gw fun b=>k (.str b)
 | .ff=>v.eH fun b=>k (.bs b)
 | .sl z=>v.hO z fun b=>k (.sl z b)
 | _=>none
def l_:List CT->List AV->(List AV->Option α)->Option α
 | [],l,k=>aw l (k [])
 | c::cs,l,k=>ay l fun x r=>fq c x fun x'=>l_ cs r fun r'=>k (x'::r')
def cI:TK->Bool
 | .struct _ | .cF .. => Zn
 | _=>Zv
def zeroV(i:TI):AV:=match cI i.kind with
 | true => .agg i.zero
 | false=>i.zero.headD .undef
def norm(i:TI)(v:AV)(k:AV->Option α):Option α :=
 match cI i.kind with
 | true=>v.eu fun cs=>l_ i.fX cs fun iw=>k (.agg iw)
 | false=>match i.fX with
  | [c]=>fq c v k
  | _=>none
def cl{β:Type}(f:Nat->β)(k:Nat)(b:β):Nat->β:=fun x=>bif Zy x k then b else f x
def zH(c:CT)(v:AV)(st:Nat->br)(k:AV->(Nat->br)->FP->Option α):Option α :=
 match c,v with
 | .ff,.cJ=>k (.bs []) st .none
 | .sl z,.cJ=>k (.sl z []) st .none
 | _,.row r=>match st r with
  | .dX e l _=>k (.bs l) (cl st r (.dX e l Zn)) ⟨[r],[r]⟩
  | .cU e z l _=>k (.sl z l) (cl st r (.cU e z l Zn)) ⟨[r],[r]⟩
  | _=>none
 | _,.int kd n=>k (.int kd n) st .none
 | _,.u8 b=>k (.u8 b) st .none
 | _,.bool b=>k (.bool b) st .none
 | _,.str s=>k (.str s) st .none
 | _,.bs l=>k (.bs l) st .none
 | _,.sl z l=>k (.sl z l) st .none
 | _,.lN=>k .lN st .none
 | _,.jg cs=>k (.jg cs) st .none
 | _,_=>none
def FP.add(a b:FP):FP:=⟨a.rd++b.rd,a.wr++b.wr⟩
def lU:List CT->List AV->(Nat->br)->(List AV->(Nat->br)->FP->Option α)->Option α
 | [],[],st,k=>k [] st .none
 | c::cs,v::vs,st,k=>zH c v st fun a bU f1=>lU cs vs bU fun l bL f2=>k (a::l) bL (f1.add f2)
 | _,_,_,_=>none
def out(i:TI)(v:AV)(st:Nat->br)(k:AV->(Nat->br)->FP->Option α):Option α :=
 match cI i.kind,v with
 | true,.agg cs=>lU i.fX cs st fun l st' f=>k (.agg l) st' f
 | false,v=>match i.fX with
  | [c]=>zH c v st k
  | _=>none
 | _,_=>none
def Ki(i:TI)(v:AV)(st:Nat->br)(k:AV->(Nat->br)->FP->Option α):Option α :=
 match v with
 | .cJ=>k .cJ st .none
 | v=>out i v st k
def gD(x y:AV)(k:IntKind->Int->Int->Option α):Option α :=
 match x,y with
 | .int a n,.int b m=>bif a==b then k a n m else none
 | .u8 n,.u8 m=>k .u8 n.toNat m.toNat
 | _,_=>none
def kN:AV->AV->Option Bool
 | .int a n,.int b m=>bif a==b then Zz (n==m) else none
 | .u8 n,.u8 m=>Zz (n==m)
 | .bool a,.bool b=>Zz (a==b)
 | .str a,.str b=>Zz (a==b)
 | _,_=>none
def Ld(a b:Option Bool):Option Bool:=match a with
 | some x=>match b with
  | some y=>Zz (x&&y)
  | none=>none
 | none=>none
def df:List AV->List AV->Option Bool
 | [],[]=>Zz Zn
 | [x],[y]=>kN x y
 | x::xs,y::ys=>Ld (kN x y) (df xs ys)
 | _,_=>none
def pI:AV->Option Int
 | .int _ n=>Zz n
 | .u8 b=>Zz b.toNat
 | _=>none
def lQ(op:BinOp)(x y:AV):Option AV :=
 match op with
 | .shl=>match x,pI y with
  | .int k n,Zz m=>az (Zw (0<=m)) (Zz (.int k (k.wrap (n*2 ^ (min m.toNat k.bits)))))
  | .u8 n,Zz m=>az (Zw (0<=m)) (Zz (mP .u8 (IntKind.u8.wrap ((n.toNat:Int)*2 ^ (min m.toNat 8)))))
  | _,_=>none
 | .shr=>match x,pI y with
  | .int k n,Zz m=>az (Zw (0<=m)) (Zz (.int k (n.fdiv (2 ^ (min m.toNat k.bits)))))
  | .u8 n,Zz m=>az (Zw (0<=m)) (Zz (mP .u8 ((n.toNat:Int).fdiv (2 ^ (min m.toNat 8)))))
  | _,_=>none
 | .add=>match x,y with
  | .str a,.str b=>az (Zw (a.length+b.length<=4611686018427387904)) (Zz (.str (a++b)))
  | x,y=>gD x y fun k n m=>Zz (mP k (k.wrap (n+m)))
 | .sub=>gD x y fun k n m=>Zz (mP k (k.wrap (n-m)))
 | .mul=>gD x y fun k n m=>Zz (mP k (k.wrap (n*m)))
 | .quo=>gD x y fun k n m=>az (!(m==0)) (Zz (mP k (k.wrap (n.tdiv m))))
 | .rem=>gD x y fun k n m=>az (!(m==0)) (Zz (mP k (n.tmod m)))
 | .and=>gD x y fun k n m=>Zz (mP k (k.wrap (BitVec.ofInt k.bits n &&& BitVec.ofInt k.bits m).toNat))
 | .or=>gD x y fun k n m=>Zz (mP k (k.wrap (BitVec.ofInt k.bits n ||| BitVec.ofInt k.bits m).toNat))
 | .xor=>gD x y fun k n m=>Zz (mP k (k.wrap (BitVec.ofInt k.bits n ^^^ BitVec.ofInt k.bits m).toNat))
 | .lss=>match x,y with
  | .str a,.str b=>Zz (.bool (Op.bytesLess a b))
  | x,y=>gD x y fun _ n m=>Zz (.bool (Zw (n<m)))
 | .leq=>match x,y with
  | .str a,.str b=>Zz (.bool (Op.bytesLess a b||a==b))
  | x,y=>gD x y fun _ n m=>Zz (.bool (Zw (n<=m)))
 | .gtr=>match x,y with
  | .str a,.str b=>Zz (.bool (!(Op.bytesLess a b||a==b)))
  | x,y=>gD x y fun _ n m=>Zz (.bool (Zw (n>m)))
 | .geq=>match x,y with
  | .str a,.str b=>Zz (.bool !(Op.bytesLess a b))
  | x,y=>gD x y fun _ n m=>Zz (.bool (Zw (n>=m)))
 | .eql=>match x,y with
  | .agg a,.agg b=>(df a b).map .bool
  | x,y=>(kN x y).map .bool
 | .neq=>match x,y with
  | .agg a,.agg b=>(df a b).map fun c => .bool !c
  | x,y=>(kN x y).map fun c => .bool !c
 | _=>none
def yC(op:BinOp)(x y:AV):Option (Bool×AV) :=
 match op with
 | .shl=>match x,pI y with
  | .int k n,Zz m=>Zz (Zw (0<=m),.int k (k.wrap (n*2 ^ (min m.toNat k.bits))))
  | .u8 n,Zz m=>Zz (Zw (0<=m),mP .u8 (IntKind.u8.wrap ((n.toNat:Int)*2 ^ (min m.toNat 8))))
  | _,_=>none
 | .shr=>match x,pI y with
  | .int k n,Zz m=>Zz (Zw (0<=m),.int k (n.fdiv (2 ^ (min m.toNat k.bits))))
  | .u8 n,Zz m=>Zz (Zw (0<=m),mP .u8 ((n.toNat:Int).fdiv (2 ^ (min m.toNat 8))))
  | _,_=>none
 | .add=>match x,y with
  | .str a,.str b=>Zz (Zw (a.length+b.length<=4611686018427387904),.str (a++b))
  | x,y=>(lQ .add x y).map fun v=>(Zn,v)
 | .quo=>gD x y fun k n m=>Zz (!(m==0),mP k (k.wrap (n.tdiv m)))
 | .rem=>gD x y fun k n m=>Zz (!(m==0),mP k (n.tmod m))
 | op=>(lQ op x y).map fun v=>(Zn,v)
def mm2(mx:Bool)(x y:AV):Option AV :=
 match x,y with
 | .int a n,.int b m=>bif a==b then Zz (.int a (match mx with | true=>Kerb.imax n m | false=>Kerb.tY n m)) else none
 | _,_=>none
def zA(mx:Bool):AV->List AV->Option AV
 | x,[]=>match x with
  | .int k n=>Zz (.int k n)
  | _=>none
 | x,y::r=>(mm2 mx x y).bind fun z=>zA mx z r
def MF(mx:Bool):List AV->Option AV
 | []=>none
 | x::r=>zA mx x r
def Q4(op:UnOp)(x:AV):Option AV :=
 match op,x with
 | .not,.bool b=>Zz (.bool !b)
 | .neg,.int k n=>Zz (.int k (k.wrap (0-n)))
 | _,_=>none
def bytesOf(st:Nat->br)(v:AV)(k:List UInt8->FP->Option α):Option α :=
 match v with
 | .bs l=>k l .none
 | .cJ=>k [] .none
 | .row r=>match st r with
  | .dX _ l _=>k l ⟨[r],[]⟩
  | _=>none
 | _=>none
def u3(sz:Nat)(st:Nat->br)(v:AV)(k:List AV->FP->Option α):Option α :=
 match v with
 | .sl z l=>bif Zy z sz then k l .none else none
 | .cJ=>k [] .none
 | .row r=>match st r with
  | .cU _ z l _=>bif Zy z sz then k l ⟨[r],[]⟩ else none
  | _=>none
 | _=>none
def lenOf(st:Nat->br)(v:AV)(k:Nat->FP->Option α):Option α :=
 match v with
 | .bs l=>k l.length .none
 | .sl _ l=>k l.length .none
 | .cJ=>k 0 .none
 | .bA _ gB=>k gB.length .none
 | .row r=>match st r with
  | .dX _ l _=>k l.length ⟨[r],[]⟩
  | .cU _ _ l _=>k l.length ⟨[r],[]⟩
  | _=>none
 | .bz r _ _=>match st r with
  | .gU _ _ l=>k l.length ⟨[r],[]⟩
  | _=>none
 | _=>none
def OA:List AV->Option (List UInt8)
 | []=>Zz []
 | .u8 b::r=>(OA r).map (b :: ·)
 | _=>none
def place(cs:List AV)(off:Nat)(news:List AV):List AV:=cs.take off++news++cs.drop (off+news.length)
def qj:List AV->Nat->List AV->List AV
 | [],_,_=>[]
 | c::cs,0,n=>match n with
  | []=>c::cs
  | x::r=>x::qj cs 0 r
 | c::cs,k+1,n=>c::qj cs k n
def fill(gB:Nat->Option (Nat×Nat)):List (Nat×AV)->List AV->Option (List AV)
 | [],cs=>Zz cs
 | (i,v)::r,cs=>match gB i with
  | some q=>bif v.cells.length==q.2&&Zh (q.1+q.2) cs.length&&v.cells.all AV.dk then fill gB r (qj cs q.1 v.cells) else none
  | none=>none
end ops
def cn(E:Env)(fr:Fr):Operand->Option AV
 | .tmp t=>Zz (fr.aO t)
 | .const v=>MN v
 | .global g=>(E.pd g).map .jg
 | .func f=>Zz (.fn f)
def fg(E:Env)(fr:Fr):List Operand->Option (List AV)
 | []=>Zz []
 | x::r=>match cn E fr x,fg E fr r with | some a,Zz l=>Zz (a::l) | _,_=>none
def gi(E:Env)(fr:Fr):List (Nat×Operand)->Option (List (Nat×AV))
 | []=>Zz []
 | (i,x)::r=>match cn E fr x,gi E fr r with | some a,Zz l=>Zz ((i,a)::l) | _,_=>none
section step
variable {α:Type} (E:Env) (fr:Fr)
def gE(t:Nat)(b:br)(v:AV)(k:j5 α):Option α :=
 match fr.st t with
 | .free=>k v (cl fr.st t b) ⟨[t],[t]⟩
 | _=>none
def loadCells(i:TI)(cs:List AV)(k:AV->Option α):Option α :=
 bif Zh i.size cs.length then
  match cI i.kind with
  | true=>k (.agg (cs.take i.size))
  | false=>match cs with
   | c::_=>k c
   | []=>none
 else none
def jb(i:TI)(a:AV)(k:j5 α):Option α :=
 match a with
 | .ptr b off=>match fr.st b with
  | .cells cs=>loadCells i (cs.drop off) fun v=>k v fr.st ⟨[b],[]⟩
  | _=>none
 | .jg cs=>loadCells i cs fun v=>k v fr.st .none
 | .pE b off=>match i.kind with
  | .ptr _=>az (Zy i.size 1) (k (.ptr b off) fr.st .none)
  | _=>none
 | .jc b j sz off=>match fr.st b with
  | .dX _ l _=>az (Zk j l.length&&Zy off 0&&Zy sz 1 && !cI i.kind) (k (.u8 (l.getD j 0)) fr.st ⟨[b],[]⟩)
  | .h_ l _=>az (Zk j l.length&&Zy off 0&&Zy sz 1 && !cI i.kind) (k (.u8 (l.getD j 0)) fr.st ⟨[b],[]⟩)
  | .cU e z l _=>match E.ty e with
   | some ei=>az (Zk j l.length&&Zy z sz) (norm ei (l.getD j .undef) fun v=>loadCells i (v.cells.drop off) fun v=>k v fr.st ⟨[b],[]⟩)
   | none=>none
  | .gU e z l=>match E.ty e with
   | some ei=>az (Zk j l.length&&Zy z sz) (norm ei (l.getD j .undef) fun v=>loadCells i (v.cells.drop off) fun v=>k v fr.st ⟨[b],[]⟩)
   | none=>none
  | _=>none
 | _=>none
def qF(ei:TI)(old:AV)(off:Nat)(news:List AV):AV:=match cI ei.kind with
 | true => .agg (place old.cells off news)
 | false=>news.headD .undef
def mv(i:TI)(a v:AV)(k:j5 α):Option α :=
 match a with
 | .ptr b off=>match fr.st b with
  | .cells cs=>bif v.cells.length==i.size&&Zh (off+i.size) cs.length&&v.cells.all AV.dk then k .undef (cl fr.st b (.cells (qj cs off v.cells))) ⟨[b],[b]⟩ else none
  | _=>none
 | .jc b j sz off=>match fr.st b with
  | .dX e l gC=>v.nW fun x=>az (Zk j l.length&&Zy off 0&&Zy sz 1&&Zy i.size 1 && !gC) (k .undef (cl fr.st b (.dX e (l.set j x) Zv)) ⟨[b],[b]⟩)
  | .h_ l gC=>v.nW fun x=>az (Zk j l.length&&Zy off 0&&Zy sz 1&&Zy i.size 1 && !gC) (k .undef (cl fr.st b (.h_ (l.set j x) Zv)) ⟨[b],[b]⟩)
  | .cU e z l gC=>match E.ty e with
   | some ei=>az (Zk j l.length&&Zy z sz && !gC) (out i v fr.st fun v' bU f1=>match bU b with
    | .cU e1 z1 l1 Zv=>norm ei (l1.getD j .undef) fun old =>
      az (v'.cells.length==i.size&&Zh (off+i.size) old.cells.length&&Zk 0 i.size&&Zy z1 z&&Zk j l1.length)
       (k .undef (cl bU b (.cU e1 z1 (l1.set j (qF ei old off v'.cells)) Zv)) (f1.add ⟨[b],[b]⟩))
    | _=>none)
   | none=>none
  | .gU e z l=>match E.ty e with
   | some ei=>az (Zk j l.length&&Zy z sz) (out i v fr.st fun v' bU f1=>match bU b with
    | .gU e1 z1 l1=>norm ei (l1.getD j .undef) fun old =>
      az (v'.cells.length==i.size&&Zh (off+i.size) old.cells.length&&Zk 0 i.size&&Zy z1 z&&Zk j l1.length)
       (k .undef (cl bU b (.gU e1 z1 (l1.set j (qF ei old off v'.cells)))) (f1.add ⟨[b],[b]⟩))
    | _=>none)
   | none=>none
  | _=>none
 | _=>none
def mI(q:Nat)(v:AV)(k:j5 α):Option α :=
 match v with
 | .ptr b off=>k (.ptr b (off+q)) fr.st .none
 | .jg cs=>k (.jg (cs.drop q)) fr.st .none
 | .jc b j sz off=>k (.jc b j sz (off+q)) fr.st .none
 | _=>none
def p7(i:TI)(f:Nat):Option (Nat×Nat):=match i.kind with | .struct fs=>fs[f]? | _=>none
def zM:List Nat->Nat->(Nat->Option α)->Option α
 | [],_,_=>none
 | o::r,n,f=>aD (Zy n 0) (f o) (zM r (n-1) f)
def idx(v:AV):Option Int:=match v with | .int _ n=>Zz n | .u8 b=>Zz b.toNat | _=>none
def eA(i:TI)(x ix:AV)(k:j5 α):Option α :=
 match i.kind,x,idx ix with
 | .slice e Zn,x,Zz n=>match x with
  | .bs l=>az (Zw (0<=n)&&Zw (n<l.length)) (k (.jg [.u8 (l.getD n.toNat 0)]) fr.st .none)
  | .row r=>match fr.st r with
   | .dX _ l _=>az (Zw (0<=n)&&Zw (n<l.length)) (k (.jc r n.toNat 1 0) fr.st ⟨[r],[]⟩)
   | _=>none
  | _=>none
 | .slice e Zv,x,Zz n=>match E.ty e with
  | some ei=>match x with
   | .sl z l=>az (Zw (0<=n)&&Zw (n<l.length)&&Zy z ei.size) (norm ei (l.getD n.toNat .undef) fun v=>k (.jg v.cells) fr.st .none)
   | .bA b gB=>az (Zw (0<=n)&&Zw (n<gB.length)&&Zy ei.size 1) (zM gB n.toNat fun o=>k (.pE b o) fr.st .none)
   | .row r=>match fr.st r with
    | .cU _ z l _=>az (Zw (0<=n)&&Zw (n<l.length)&&Zy z ei.size) (k (.jc r n.toNat z 0) fr.st ⟨[r],[]⟩)
    | _=>none
   | .bz r _ _=>match fr.st r with
    | .gU _ z l=>az (Zw (0<=n)&&Zw (n<l.length)&&Zy z ei.size) (k (.jc r n.toNat z 0) fr.st ⟨[r],[]⟩)
    | _=>none
   | _=>none
  | none=>none
 | .cF len e Zn,.ptr b 0,Zz n=>match fr.st b with
  | .h_ l _=>az (Zw (0<=n)&&Zw (n<l.length)&&Zy l.length len&&Zk 1 len) (k (.jc b n.toNat 1 0) fr.st ⟨[b],[]⟩)
  | _=>none
 | .cF len e Zv,.ptr b off,Zz n=>match E.ty e with
  | some ei=>az (Zw (0<=n)&&Zw (n<(len:Int))&&Zk 1 len) (k (.ptr b (off+n.toNat*ei.size)) fr.st .none)
  | none=>none
 | .cF len e Zv,.jg cs,Zz n=>match E.ty e with
  | some ei=>az (Zw (0<=n)&&Zw (n<(len:Int))&&Zk 1 len&&Zy ei.size 1&&Zh len cs.length) (norm ei (cs.getD n.toNat .undef) fun v=>k (.jg [v]) fr.st .none)
  | none=>none
 | _,_,_=>none
def uZ(i:TI)(x ix:AV)(k:j5 α):Option α :=
 match i.kind,x,idx ix with
 | .str,.str l,Zz n=>az (Zw (0<=n)&&Zw (n<l.length)) (k (.u8 (l.getD n.toNat 0)) fr.st .none)
 | _,_,_=>none
def qZ(v:Option AV)(d:Nat):Option Int:=match v with | none=>Zz (d:Int) | some v=>idx v
def sI(i:TI)(x:AV)(lo hi mx:Option AV)(k:j5 α):Option α :=
 match mx with
 | some _=>none
 | none=>match i.kind with
  | .str=>x.gw fun l=>match qZ lo 0,qZ hi l.length with
   | some a,Zz b=>az (Zw (0<=a)&&Zw (a<=b)&&Zw (b<=l.length)) (k (.str ((l.take b.toNat).drop a.toNat)) fr.st .none)
   | _,_=>none
  | .slice e Zn=>zH .ff x fr.st fun v st fp=>v.eH fun l=>match qZ lo 0,qZ hi l.length with
   | some a,Zz b=>az (Zw (0<=a)&&Zw (a<=b)&&Zw (b<=l.length)) (k (.bs ((l.take b.toNat).drop a.toNat)) st fp)
   | _,_=>none
  | .slice e Zv=>match E.ty e with
   | some ei=>zH (.sl ei.size) x fr.st fun v st fp=>v.hO ei.size fun l=>match qZ lo 0,qZ hi l.length with
    | some a,Zz b=>az (Zw (0<=a)&&Zw (a<=b)&&Zw (b<=l.length)) (k (.sl ei.size ((l.take b.toNat).drop a.toNat)) st fp)
    | _,_=>none
   | none=>none
  | .cF n e Zn=>match x with
   | .ptr b 0=>match fr.st b with
    | .h_ l _=>match qZ lo 0,qZ hi l.length with
     | some a,Zz c=>az (Zw (0<=a)&&Zw (a<=c)&&Zw (c<=l.length)&&Zy l.length n) (k (.bs ((l.take c.toNat).drop a.toNat)) (cl fr.st b (.h_ l Zn)) ⟨[b],[b]⟩)
     | _,_=>none
    | _=>none
   | _=>none
  | _=>none
def rq(i:TI)(x:AV)(lo:Option AV)(hi m:AV)(k:j5 α):Option α :=
 match i.kind with
 | .slice e Zn=>zH .ff x fr.st fun v st fp=>v.eH fun l=>match qZ lo 0,idx hi,idx m with
  | some a,Zz b,Zz c=>az (Zw (0<=a)&&Zw (a<=b)&&Zw (b<=c)&&Zw (c<=l.length)) (k (.bs ((l.take b.toNat).drop a.toNat)) st fp)
  | _,_,_=>none
 | .slice e Zv=>match E.ty e,lo,idx hi,idx m with
  | some _,none,Zz b,Zz c=>az (b==0&&c==0) (match x with
   | .sl _ _=>k .cJ fr.st .none
   | .cJ=>k .cJ fr.st .none
   | .row _=>k .cJ fr.st .none
   | _=>none)
  | _,_,_,_=>none
 | _=>none
def ru(i:TI)(x:AV)(lo hi:Option AV)(k:j5 α):Option α :=
 match i.kind,x with
 | .slice _ Zn,.row r=>match fr.st r with
  | .dX _ l p=>match lo,hi with
   | none,Zz h=>match idx h with
    | some b=>az (Zw (0<=b)&&Zw (b<=l.length)&&Zk 0 l.length && !p) (k (.pre r b.toNat) fr.st ⟨[r],[]⟩)
    | none=>none
   | some a,none=>match idx a with
    | some a=>az (Zw (0<=a)&&Zw (a<=l.length)&&Zk 0 l.length && !p) (k (.DW r a.toNat) fr.st ⟨[r],[]⟩)
    | none=>none
   | _,_=>none
  | _=>none
 | _,_=>none
def o7(t:Nat)(ki:TI)(k:j5 α):Option α :=
 match vz ki with
 | some q=>gE fr t (.mO q.1 q.2 []) (.mp t) k
 | none=>none
def nM(ki ei:TI)(m q:AV)(ok:Bool)(k:j5 α):Option α :=
 match m with
 | .mp b=>match fr.st b with
  | .mO s kd els=>match vz ki with
   | some z=>az ((z.1==s)&&(z.2==kd)&&oz s kd q) (norm ei (Kerb.getM q els (zeroV ei)) fun v=>match ok with
    | true=>k (.aQ [v,.bool (Kerb.Wr q els)]) fr.st ⟨[b],[]⟩
    | false=>k v fr.st ⟨[b],[]⟩)
   | none=>none
  | _=>none
 | _=>none
def o8(ki ei:TI)(m q x:AV)(k:j5 α):Option α :=
 match m with
 | .mp b=>match fr.st b with
  | .mO s kd els=>match vz ki with
   | some z=>az ((z.1==s)&&(z.2==kd)&&oz s kd q) (out ei x fr.st fun v bU f1=>match bU b with
    | .mO s1 RU CH=>az ((s1==s)&&(RU==kd)) (k .undef (cl bU b (.mO s kd (Kerb.np q v CH))) (f1.add ⟨[b],[b]⟩))
    | _=>none)
   | none=>none
  | _=>none
 | _=>none
def o0(s d:TI)(x:AV)(k:j5 α):Option α :=
 match d.kind with
 | .int kd=>match idx x with
  | some n=>k (.int kd (kd.wrap n)) fr.st .none
  | none=>none
 | .u8=>match idx x with
  | some n=>k (mP .u8 (IntKind.u8.wrap n)) fr.st .none
  | none=>none
 | .str=>match s.kind with
  | .str=>x.gw fun l=>k (.str l) fr.st .none
  | .slice _ Zn=>bytesOf fr.st x fun l fp=>k (.str l) fr.st fp
  | _=>none
 | .slice _ Zn=>match s.kind with
  | .str=>x.gw fun l=>k (.bs l) fr.st .none
  | _=>none
 | _=>none
def room(n bytes:Nat):Bool:=Zh (n*bytes) 140737488355328&&Zh n 140737488355328
def Cs(t e:Nat)(s:AV)(new:List UInt8)(fp:FP)(k:j5 α):Option α :=
 match s with
 | .cJ=>az (room new.length 1) (k (.row t) (cl fr.st t (.dX e new Zv)) ⟨t::fp.rd,[t]⟩)
 | .row r=>match fr.st r with
  | .dX e' l p=>az (Zy e e'&&room (l.length+new.length) 1) (k (.row t) (cl (cl fr.st r .dead) t (.dX e (l++new) p)) ⟨t::r::fp.rd,[t,r]⟩)
  | _=>none
 | _=>none
def G0(t e:Nat)(ei:TI)(s:AV)(new:List AV)(fp:FP)(k:j5 α):Option α :=
 match s with
 | .cJ=>az (Zk 0 ei.size&&room new.length ei.bytes) (k (.row t) (cl fr.st t (.cU e ei.size new Zv)) ⟨t::fp.rd,[t]⟩)
 | .row r=>match fr.st r with
  | .cU e' z l p=>az (Zy e e'&&Zy z ei.size&&room (l.length+new.length) ei.bytes) (k (.row t) (cl (cl fr.st r .dead) t (.cU e ei.size (l++new) p)) ⟨t::r::fp.rd,[t,r]⟩)
  | _=>none
 | _=>none
def Jg(t e:Nat)(s:AV)(r m:Nat)(k:j5 α):Option α :=
 match s with
 | .pre r' n=>match fr.st r with
  | .dX e' l p=>az (Zk 0 l.length&&Zy r r'&&Zy e e' && !p&&room (n+(l.length-m)) 1) (k (.row t) (cl (cl fr.st r .dead) t (.dX e (l.take n++l.drop m) Zv)) ⟨[t,r],[t,r]⟩)
  | _=>none
 | _=>none
def ja(t:Nat)(i:TI)(s x:AV)(k:j5 α):Option α :=
 match fr.st t with
 | .free=>match i.kind with
  | .slice e Zn=>match x with
   | .str l=>Cs fr t e s l .none k
   | .DW r m=>Jg fr t e s r m k
   | x=>bytesOf fr.st x fun new fp=>Cs fr t e s new fp k
  | .slice e Zv=>match E.ty e with
   | none=>none
   | some ei=>u3 ei.size fr.st x fun new fp=>G0 fr t e ei s new fp k
  | _=>none
 | _=>none
def mQ(ei:TI):List (Nat×AV)->(Nat->br)->(List (Nat×AV)->(Nat->br)->FP->Option α)->Option α
 | [],st,k=>k [] st .none
 | (i,v)::r,st,k=>out ei v st fun a bU f1=>mQ ei r bU fun l bL f2=>k ((i,a)::l) bL (f1.add f2)
def fF:Nat->List (Nat×AV)->Option (List AV)
 | _,[]=>Zz []
 | j,(i,v)::r=>bif Zy i j then(fF (j+1) r).map (v :: ·) else none
def CX:List (Nat×AV)->Option Nat
 | (_,.ptr k _)::_=>Zz k
 | _=>none
def wX(b:Nat):Nat->List (Nat×AV)->Option (List Nat)
 | _,[]=>Zz []
 | j,(i,.ptr k off)::r=>bif Zy i j&&Zy k b then(wX b (j+1) r).map (off :: ·) else none
 | _,_=>none
def yD(t:Nat)(i:TI)(l c:AV)(k:j5 α):Option α :=
 match i.kind,idx l,idx c with
 | .slice e Zn,Zz n,Zz m=>az (Zw (0<=n)&&Zw (n<=m)&&Zw (m<=140737488355328)) (gE fr t (.dX e (List.replicate n.toNat 0) Zv) (.row t) k)
 | _,_,_=>none
def nL(d:Nat)(i:TI)(len:Nat)(parts:List (Nat×AV))(k:j5 α):Option α :=
 match i.kind with
 | .slice e Zn=>match fF 0 parts with
  | some els=>match OA els with
   | some l=>bif Zy parts.length len&&Zh len 16777216&&Zk 0 len then gE fr d (.dX e l Zv) (.row d) k else none
   | none=>none
  | none=>none
 | .slice e Zv=>match E.ty e,fF 0 parts with
  | some ei,Zz _=>bif Zy parts.length len&&Zh (len*ei.size) 16777216&&Zk 0 ei.size&&Zk 0 len then mQ ei parts fr.st fun ps st fp =>
    match fF 0 ps with
    | some els=>bif els.all (fun x=>Zy x.cells.length ei.size) then gE ⟨fr.aO,st⟩ d (.cU e ei.size els Zv) (.row d) fun v bL f2=>k v bL (fp.add f2) else none
    | none=>none
   else none
  | _,_=>none
 | _=>none
def kR(i:TI)(len:Nat)(parts:List (Nat×AV))(k:j5 α):Option α :=
  match i.kind with
  | .slice e byte=>match len with
    | 0=>match parts,E.ty e with
      | [],Zz _=>k .cJ fr.st .none
      | _,_=>none
    | _+1=>match CX parts with
     | some b=>match byte,E.ty e,wX b 0 parts with
      | false,Zz ei,Zz gB=>bif Zy parts.length len&&Zy ei.size 1&&Zh len 16777216 then k (.bA b gB) fr.st .none else none
      | _,_,_=>none
     | none=>match E.ty e,fF 0 parts with
      | some ei,Zz _=>bif Zy parts.length len&&Zh (len*ei.size) 16777216&&Zk 0 ei.size then mQ ei parts fr.st fun ps st fp =>
          match fF 0 ps with
          | some els=>match byte with
            | true=>match OA els with
              | some l=>k (.bs l) st fp
              | none=>none
            | false=>bif els.all (fun x=>Zy x.cells.length ei.size) then k (.sl ei.size els) st fp else none
          | none=>none
        else none
      | _,_=>none
  | _=>none
def S4(ty:Nat):Option TI:=match E.ty ty with
 | some i=>match i.kind with
  | .ptr e=>E.ty e
  | _=>Zz i
 | none=>none
def dP(f:Nat):Nat->List Nat->List AV->(Nat->br)->(List AV->List (Nat×Nat×List AV)->(Nat->br)->FP->Option α)->Option α
 | _,[],[],st,k=>k [] [] st .none
 | j,ty::jm,v::vs,st,k=>match v with
  | .ptr b off=>match st b with
   | .cells cs=>match S4 E ty with
    | some ei=>bif off==0&&ei.size==cs.length then lU ei.fX cs st fun iw bU f1 =>
      dP f (j+1) jm vs bU fun l bl bL f2=>bif bl.any (fun x=>x.2.1==b) then none else k (.ptr j 0::l) ((j,b,iw)::bl) bL (FP.add ⟨b::f1.rd,b::f1.wr⟩ f2)
     else none
    | none=>none
   | _=>none
  | .bz r e z=>dP f (j+1) jm vs st fun l bl bL f2=>match bL r with
   | .gU e' z' els=>bif Zy e e'&&Zy z z' && !bl.any (fun x=>x.2.1==r) then k (.bz j e z::l) ((j,r,els)::bl) bL (FP.add ⟨[r],[r]⟩ f2) else none
   | _=>none
  | v=>match E.own (1000000+f*64+j) with
   | true=>match v with
    | .row r=>dP f (j+1) jm vs st fun l bl bL f2=>match bL r with
     | .cU e z els Zv=>az (Zk 0 els.length) (bif !bl.any (fun x=>x.2.1==r) then k (.bz j e z::l) ((j,r,els)::bl) bL (FP.add ⟨[r],[r]⟩ f2) else none)
     | _=>none
    | _=>none
   | false=>match E.ty ty with
    | some i=>Ki i v st fun a bU f1=>dP f (j+1) jm vs bU fun l bl bL f2=>k (a::l) bl bL (f1.add f2)
    | none=>none
 | _,_,_,_,_=>none
def LD(ty:Nat->Option TI):Nat->Nat->List Nat
 | 0,t=>[t]
 | m+1,t=>match ty t with
  | some i=>match i.kind with
   | .struct fs=>fs.flatMap fun f=>LD ty m f.2
   | _=>[t]
  | none=>[t]
def U9(ty:Nat->Option TI):List Nat->Nat->Option (Nat×Nat×TI)
 | [],_=>none
 | t::r,n=>match ty t with
  | some i=>match i.kind with
   | .slice e Zv=>match ty e with
    | some ei=>Zz (n,e,ei)
    | none=>none
   | _=>U9 ty r (n+1)
  | none=>none
def Nd(ty:Nat->Option TI)(fs:List (Nat×Nat)):Option (Nat×Nat×TI):=U9 ty (fs.flatMap fun f=>LD ty 5 f.2) 0
def oB(t:Nat):Nat->List CT->List AV->(List AV->List AV->Option α)->Option α
 | 0,_::fX,v,k=>ay v fun x r=>x.aR fun l=>l_ fX r fun r'=>k (.row t::r') l
 | j+1,c::fX,v,k=>ay v fun x r=>fq c x fun x'=>oB t j fX r fun r' l=>k (x'::r') l
 | _,[],_,_=>none
def E4(fs:List (Nat×Nat))(t:Nat)(i:TI)(v:AV)(st:Nat->br)(k:AV->(Nat->br)->FP->Option α):Option α :=
 match Nd E.ty fs with
 | some (j,e,ei)=>match st t with
  | .free=>v.eu fun cs=>oB t j i.fX cs fun iw l=>k (.agg iw) (cl st t (.cU e ei.size l Zv)) ⟨[t],[t]⟩
  | _=>none
 | none=>norm i v fun v'=>k v' st .none
def qz(own:Bool)(t:Nat)(i:TI)(v:AV)(st:Nat->br)(k:AV->(Nat->br)->FP->Option α):Option α :=
 match own,i.kind with
 | true,.slice e Zn=>match st t with
  | .free=>v.eF fun l=>k (.row t) (cl st t (.dX e l Zv)) ⟨[t],[t]⟩
  | _=>none
 | true,.slice e Zv=>match st t,E.ty e with
  | .free,Zz ei=>v.aR fun l=>k (.row t) (cl st t (.cU e ei.size l Zv)) ⟨[t],[t]⟩
  | _,_=>none
 | true,.struct fs=>E4 E fs t i v st k
 | _,_=>norm i v fun v'=>k v' st .none
def k9(own:Bool)(t:Nat):List Nat->List AV->(Nat->br)->(List AV->(Nat->br)->FP->Option α)->Option α
 | [],l,st,k=>aw l (k [] st .none)
 | ty::jm,l,st,k=>match E.ty ty with
  | some i=>ay l fun v r=>qz E own t i v st fun a bU f1=>k9 Zv (t+4096) jm r bU fun l' bL f2=>k (a::l') bL (f1.add f2)
  | none=>none
def vM(o v:AV)(k:AV->Option α):Option α :=
 match o with
 | .int kd _=>v.ax kd fun n=>k (.int kd n)
 | .u8 _=>v.nW fun b=>k (.u8 b)
 | .bool _=>v.cR fun b=>k (.bool b)
 | .str _=>v.gw fun b=>k (.str b)
 | .bs _=>v.eH fun b=>k (.bs b)
 | .sl z _=>v.hO z fun b=>k (.sl z b)
 | _=>k v
def nw:List AV->List AV->(List AV->Option α)->Option α
 | [],l,k=>aw l (k [])
 | o::os,l,k=>ay l fun x r=>vM o x fun x'=>nw os r fun r'=>k (x'::r')
def zQ:br->List AV->br
 | .cU e z _ p,cs => .cU e z cs p
 | .gU e z _,cs => .gU e z cs
 | _,cs => .cells cs
def isRow:br->Bool
 | .cU .. => Zn
 | .gU .. => Zn
 | _=>Zv
def k8:List (Nat×Nat×List AV)->aC->(Nat->br)->((Nat->br)->Option α)->Option α
 | [],bs,st,k=>aM bs (k st)
 | (_,b,old)::r,bs,st,k=>aL bs fun cs P2=>match isRow (st b) with
  | true=>k8 r P2 (cl st b (zQ (st b) cs)) k
  | false=>nw old cs fun iw=>k8 r P2 (cl st b (zQ (st b) iw)) k
end step
def rn{α:Type}(E:Env)(fr:Fr)(rts:Nat->Option (List Nat))(t:Nat)(f:Nat)(QM:List Nat)(args:List AV)(k:j5 α):Option α :=
 match rts f with
 | none=>none
 | some rt=>dP E f 0 QM args fr.st fun as bl st fp =>
  (E.call f as (bl.map fun x=>(x.1,x.2.2))).bind fun r=>k8 bl r.2 st fun bU =>
   match rt with
   | [ty]=>match E.ty ty with
    | some i=>qz E (E.own f) t i r.1 bU fun v bL f2=>k v bL (fp.add f2)
    | none=>none
   | rt=>r.1.fI fun vs=>k9 E (E.own f) t rt vs bU fun l bL f2=>k (.aQ l) bL (fp.add f2)
end Go.Abs
/- The abstract interpreter: operations dispatched, regions, code, calls. -/
namespace Go.Abs
def dJ{σ ρ:Type}(step:σ->Option (σ ⊕ ρ)):Nat->σ->Option ρ
 | 0,_=>none
 | n+1,s=>match step s with
  | some (.inl s')=>dJ step n s'
  | some (.inr r)=>Zz r
  | none=>none
open Classical in
noncomputable def bw{σ ρ:Type}(step:σ->Option (σ ⊕ ρ))(s:σ):Option ρ :=
 if h:∃ n r,dJ step n s=Zz r then Zz (Classical.choose (Classical.choose_spec h)) else none
def C5:br->Bool
 | .free=>Zn
 | _=>Zv
def yw:AV->List Nat
 | .row k=>[k]
 | .ptr k _=>[k]
 | .jc k .. => [k]
 | .bA k _=>[k]
 | .pE k _=>[k]
 | .pre k _=>[k]
 | .DW k _=>[k]
 | .AB _ fs cs=>fs.map (·.1)++cs.map (·.1)
 | .mp k=>[k]
 | .bz k .. => [k]
 | _=>[]
def Li:AV->List Nat
 | .agg cs=>cs.flatMap yw
 | v=>yw v
def uT:br->List Nat
 | .cells cs=>cs.flatMap yw
 | _=>[]
def reach(st:Nat->br):Nat->List Nat->List Nat
 | 0,ks=>ks
 | m+1,ks=>ks++reach st m (ks.flatMap fun k=>uT (st k))
theorem uv{s s2:Nat->br}:∀ {m:Nat} {ks:List Nat},(∀ x∈reach s m ks,s2 x=s x)->reach s2 m ks=reach s m ks
 | 0,ks,h=>rfl
 | m+1,ks,h=>by
  simp only[reach,List.mem_append] at h ⊢;have e:(ks.flatMap fun k=>uT (s2 k))=ks.flatMap fun k=>uT (s k):=by
   have:∀ l:List Nat,(∀ x∈l,s2 x=s x)->(l.flatMap fun k=>uT (s2 k))=l.flatMap fun k=>uT (s k):=by
    intro l;induction l with
    | nil=>intro _;rfl
    | cons y l ih =>
     intro hl;rw[Zg,Zg,hl y (by simp),ih fun x hx=>hl x (by simp[hx])]
   exact this ks fun x hx=>h x (.inl hx)
  rw[e,uv fun x hx=>h x (.inr hx)]
def fk(kb t:Nat):Nat:=match kb with
 | 0=>(t+1)*100000
 | m+1=>(m+1+t+1)*100000
def I2:Nat->List Nat->Nat
 | b,[]=>b
 | b,[d]=>b+d
 | b,p::r=>I2 (fk b p) r
def py(kb:Nat):List iy->List Nat
 | []=>[]
 | .bA t m ds::r=>(match m with
  | 0=>ds.map (fk kb t + ·)
  | 1=>[I2 (fk kb t) ds]
  | _=>(kb+t)::ds.map (kb + ·))++py kb r
 | .ptr t u d::r=>(fk (fk kb t) u+d)::py kb r
 | .val d _::r=>d::py kb r
 | _::r=>py kb r
def iE(st:Nat->br)(vs:List AV)(kb:Nat)(hs:List iy):List Nat:=reach st 3 (vs.flatMap Li)++py kb hs
def IH(c:CT)(v:AV):Bool:=match c,v with
 | .bool,.bool _=>Zn
 | .int k,.int k' _=>k==k'
 | _,_=>Zv
def zg(c:CT)(v:AV)(fp:FP)(A:List Nat)(st:Nat->br):Bool:=IH c v&&fp.rd.all (fun x=>A.contains x)&&fp.wr.all fun x=>A.contains x&&C5 (st x)
def BA{α:Type}(run:DZ)(c:CT)(hs:List iy)(kb:Nat)(vs:List AV)(st:Nat->br)(k:j5 α):Option α :=
 (run.run (List AV) kb vs st fun v _ fp=>az (zg c v fp (iE st vs kb hs) st) (Zz [v])).bind fun l =>
  ay l fun v r=>aw r (fq c v fun v'=>k v' st ⟨iE st vs kb hs,[]⟩)
def yu{α:Type}(h:List iy)(run:DZ)(kb:Nat)(vs:List AV)(st:Nat->br)(k:j5 α):Option α :=
 match h with
 | .cells _ [c]::hs=>BA run c hs kb vs st k
 | _=>run.run α kb vs st k
section
variable {α:Type} (E:Env) (rts:Nat->Option (List Nat))
def Ew(fr:Fr)(i:TI)(v:AV)(k:j5 α):Option α :=
 match i.kind with
 | .str=>v.gw fun l=>k (.int .i64 l.length) fr.st .none
 | .slice _ _=>lenOf fr.st v fun n fp=>k (.int .i64 n) fr.st fp
 | _=>none
def CD(i:TI)(op:BinOp)(a b:AV):Option AV :=
 match a with
 | .agg cs=>match i.SJ with
  | []=>none
  | c::r=>bif dI (c::r) cs&&cI i.kind then lQ op a b else none
 | .bool _=>match i.kind with
  | .bool=>lQ op a b
  | _=>none
 | .undef=>none
 | .aQ _=>none
 | a=>lQ op a b
def CE(i:TI)(op:BinOp)(a b:AV):Option (Bool×AV) :=
 match a with
 | .agg cs=>match i.SJ with
  | []=>none
  | c::r=>bif dI (c::r) cs&&cI i.kind then yC op a b else none
 | .bool _=>match i.kind with
  | .bool=>yC op a b
  | _=>none
 | .undef=>none
 | .aQ _=>none
 | a=>yC op a b
def uY(i:TI)(fr:Fr)(parts:List (Nat×AV))(k:j5 α):Option α :=
 match i.kind with
 | .struct fs=>match fill (fun j=>(fs[j]?).bind fun f=>(E.ty f.2).map fun fi=>(f.1,fi.size)) parts i.zero with
  | some cs=>k (.agg cs) fr.st .none
  | none=>none
 | _=>none
def AA(d:Option Nat):Bool :=
 match d with
 | some t=>match E.hJ (1000000+t) with
  | []=>Zv
  | _::_=>Zn
 | none=>Zv
def Cx(f:Nat):List Nat:=(E.hJ (7000000+f)).filterMap fun | .val _ ty=>Zz ty | _=>none
def rp(fr:Fr)(o:Oper)(k:j5 α):Option α :=
 match o.op with
 | .move x=>(cn E fr x).bind fun v=>k v fr.st .none
 | .assign x=>(cn E fr x).bind fun v=>k v fr.st .none
 | .pick c a b=>(cn E fr c).bind fun v=>v.cR fun t=>aD t ((cn E fr a).bind fun v=>k v fr.st .none) ((cn E fr b).bind fun v=>k v fr.st .none)
 | .alloc e=>(E.ty e).bind fun i=>match o.dst with
  | some t=>match i.kind with
   | .cF _ _ Zn=>(OA i.zero).bind fun l=>gE fr (E.kb+t) (.h_ l Zv) (.ptr (E.kb+t) 0) k
   | _=>gE fr (E.kb+t) (.cells i.zero) (.ptr (E.kb+t) 0) k
  | none=>none
 | .box e x=>(E.ty e).bind fun i=>(cn E fr x).bind fun v=>match o.dst with
  | some t=>bif v.cells.length==i.size&&v.cells.all AV.dk then gE fr (E.kb+t) (.cells v.cells) (.ptr (E.kb+t) 0) k else none
  | none=>none
 | .build t parts=>(E.ty t).bind fun i=>(gi E fr parts.toList).bind fun ps=>uY E i fr ps k
 | .buildSlice t len parts=>(E.ty t).bind fun i=>(gi E fr parts.toList).bind fun ps=>match AA E o.dst,o.dst with
  | true,Zz d=>nL E fr (E.kb+d) i len ps k
  | _,_=>kR E fr i len ps k
 | .makeSlice t l c=>(E.ty t).bind fun i=>(cn E fr l).bind fun n=>(cn E fr c).bind fun m=>match o.dst with
  | some d=>yD fr (E.kb+d) i n m k
  | none=>none
 | .load t a=>(E.ty t).bind fun i=>(cn E fr a).bind fun v=>jb E fr i v k
 | .store t a x=>(E.ty t).bind fun i=>(cn E fr a).bind fun p=>(cn E fr x).bind fun v=>mv E fr i p v k
 | .nilCheck x=>(cn E fr x).bind fun v=>match v with
  | .ptr a b=>k (.ptr a b) fr.st .none
  | .jg l=>k (.jg l) fr.st .none
  | .jc a b c d=>k (.jc a b c d) fr.st .none
  | _=>none
 | .binOp op t x y _=>(E.ty t).bind fun i=>(cn E fr x).bind fun a=>(cn E fr y).bind fun b=>(CE i op a b).bind fun x=>az x.1 (k x.2 fr.st .none)
 | .unOp op _ x=>(cn E fr x).bind fun a=>(Q4 op a).bind fun v=>k v fr.st .none
 | .convert s d x=>(E.ty s).bind fun si=>(E.ty d).bind fun di=>(cn E fr x).bind fun v=>o0 fr si di v k
 | .slice t x lo hi mx=>(E.ty t).bind fun i=>(cn E fr x).bind fun v =>
   match lo.map (cn E fr),hi.map (cn E fr),mx.map (cn E fr) with
   | some none,_,_=>none
   | _,Zz none,_=>none
   | _,_,Zz none=>none
   | a,Zz (Zz b),Zz (Zz m)=>rq E fr i v (a.bind id) b m k
   | _,none,Zz (Zz _)=>none
   | a,b,none=>match AA E o.dst with
    | true=>ru fr i v (a.bind id) (b.bind id) k
    | false=>sI E fr i v (a.bind id) (b.bind id) none k
 | .fieldAddr t x f=>(E.ty t).bind fun i=>(p7 i f).bind fun p=>(cn E fr x).bind fun v=>mI fr p.1 v k
 | .field t x f=>(E.ty t).bind fun i=>(p7 i f).bind fun p=>(E.ty p.2).bind fun fi=>(cn E fr x).bind fun v=>v.eu fun cs=>loadCells fi (cs.drop p.1) fun v=>k v fr.st .none
 | .indexAddr t x ix=>(E.ty t).bind fun i=>(cn E fr x).bind fun v=>(cn E fr ix).bind fun n=>eA E fr i v n k
 | .index t x ix=>(E.ty t).bind fun i=>(cn E fr x).bind fun v=>(cn E fr ix).bind fun n=>uZ fr i v n k
 | .makeFunc fn fs cs=>match fn with
  | .func f=>(fg E fr fs.toList).bind fun a=>(fg E fr cs.toList).bind fun b=>(MW a).bind fun pa=>(MW b).bind fun pb=>k (.AB f pa pb) fr.st .none
  | _=>none
 | .makeMap t r=>match r,o.dst with
  | none,Zz d=>(E.ty t).bind fun i=>match i.kind with
   | .map kt _=>(E.ty kt).bind fun ki=>o7 fr (E.kb+d) ki k
   | _=>none
  | _,_=>none
 | .lookup t x q ok=>(E.ty t).bind fun i=>match i.kind with
  | .map kt et=>(E.ty kt).bind fun ki=>(E.ty et).bind fun ei=>(cn E fr x).bind fun m=>(cn E fr q).bind fun v=>nM fr ki ei m v ok k
  | _=>none
 | .mapUpdate t x q y=>(E.ty t).bind fun i=>match i.kind with
  | .map kt et=>(E.ty kt).bind fun ki=>(E.ty et).bind fun ei=>(cn E fr x).bind fun m=>(cn E fr q).bind fun v=>(cn E fr y).bind fun z=>o8 fr ki ei m v z k
  | _=>none
 | .extract x j=>(cn E fr x).bind fun v=>v.fI fun vs=>match vs[j]? with
  | some v=>k v fr.st .none
  | none=>none
 | .call c=>match c.callee with
  | .builtin .len=>(fg E fr c.args.toList).bind fun vs=>match vs,c.argTypes.toList with
   | [v],[ty]=>(E.ty ty).bind fun i=>Ew fr i v k
   | _,_=>none
  | .builtin .append=>(fg E fr c.args.toList).bind fun vs=>match vs,c.argTypes.toList,o.dst with
   | [s,x],[ty,tx],Zz t=>(E.ty ty).bind fun i=>(E.ty tx).bind fun xi=>match xi.kind with
    | .slice _ _=>ja E fr (E.kb+t) i s x k
    | .str=>ja E fr (E.kb+t) i s x k
    | _=>none
   | _,_,_=>none
  | .builtin .min=>(fg E fr c.args.toList).bind fun vs=>(MF Zv vs).bind fun v=>k v fr.st .none
  | .builtin .max=>(fg E fr c.args.toList).bind fun vs=>(MF Zn vs).bind fun v=>k v fr.st .none
  | .value (.func f)=>(fg E fr c.args.toList).bind fun vs=>match o.dst with
   | some t=>match E.inl f with
    | some run=>yu (E.hJ (8000000+f)) run (fk E.kb t) vs fr.st k
    | none=>rn E fr rts (E.kb+t) f c.argTypes.toList vs k
   | none=>none
  | .value (.tmp s)=>(cn E fr (.tmp s)).bind fun v=>v.I1 fun f fs cs=>(fg E fr c.args.toList).bind fun vs=>match o.dst with
   | some t=>match E.inl f with
    | some run=>yu (E.hJ (8000000+f)) run (fk E.kb t) (ke fs++vs++ke cs) fr.st k
    | none=>rn E fr rts (E.kb+t) f ((Cx E f).take fs.length++c.argTypes.toList++(Cx E f).drop fs.length) (ke fs++vs++ke cs) k
   | none=>none
  | _=>none
 | _=>none
def da(fr:Fr)(n:Nat)(d:Option Nat)(v:AV)(st:Nat->br)(k:Fr->Option α):Option α :=
 match d with
 | some t=>bif Zk t n then k ⟨cl fr.aO t v,st⟩ else none
 | none=>k ⟨fr.aO,st⟩
def ko(ops:List Oper)(j:Nat):Option Nat:=(ops[j]?).bind (·.dst)
def eB(n:Nat)(all:List Oper):List Oper->Fr->(Fr->List FP->Option α)->Option α
 | [],fr,k=>k fr []
 | o::os,fr,k =>
  match o.guard with
  | none=>rp E rts fr o fun v st fp=>da fr n o.dst v st fun bt=>eB n all os bt fun dg kV=>k dg (fp::kV)
  | some (j,want)=>match ko all j with
   | none=>none
   | some g=>(fr.aO g).nj (fun b =>
    aD b
     (match want with
      | true=>rp E rts ⟨cl fr.aO g (.bool Zn),fr.st⟩ o fun v st fp=>da ⟨cl fr.aO g (.bool Zn),fr.st⟩ n o.dst v st fun bt=>eB n all os bt fun dg kV=>k dg (fp::kV)
      | false=>da ⟨cl fr.aO g (.bool Zn),fr.st⟩ n o.dst (.aQ []) fr.st fun bt=>eB n all os bt fun dg kV=>k dg (.none::kV))
     (match want with
      | false=>rp E rts ⟨cl fr.aO g (.bool Zv),fr.st⟩ o fun v st fp=>da ⟨cl fr.aO g (.bool Zv),fr.st⟩ n o.dst v st fun bt=>eB n all os bt fun dg kV=>k dg (fp::kV)
      | true=>da ⟨cl fr.aO g (.bool Zv),fr.st⟩ n o.dst (.aQ []) fr.st fun bt=>eB n all os bt fun dg kV=>k dg (.none::kV)))
    (da fr n o.dst (.aQ []) fr.st fun bt=>eB n all os bt fun dg kV=>k dg (.none::kV))
def ins(l:List Nat)(i:Nat):List Nat:=bif l.contains i then l else i::l
def xY(ops:List Oper):List (List Nat) :=
 ops.foldl (fun acc o=>acc++[o.after.toList.foldl (fun l e=>if Region.binds .any e then ins (((acc[e.on]?).getD []).foldl ins l) e.on else l) []]) []
def FP.apart(a b:FP):Bool:=a.wr.all (fun x => !b.rd.contains x && !b.wr.contains x)&&b.wr.all (fun x => !a.rd.contains x)
def slotsOf(o:Oper):List Nat:=o.op.operands.toList.filterMap fun | .tmp t=>Zz t | _=>none
def looks(ops:List Oper)(o:Oper):List Nat :=
 slotsOf o++(match o.guard with | some (g,_)=>(ko ops g).toList | none=>[])
def wC(ops:List Oper)(x y:Oper):Bool :=
 (match x.dst with | some d => !(looks ops y).contains d&&y.dst != Zz d | none=>Zn) &&
 (match y.dst with | some d => !(looks ops x).contains d | none=>Zn)
def Bw(ops:List Oper)(bs:List (List Nat))(kV:List FP)(j:Nat)(oj:Oper)(fj:FP):Bool :=
 (List.range j).all fun i=>((bs[j]?).getD []).contains i||(match ops[i]?,kV[i]? with
  | some oi,Zz fi=>wC ops oi oj&&fi.apart fj
  | _,_=>Zv)
def S6(ops:List Oper):Bool:=(List.range ops.length).all fun j=>match ops[j]? with
 | some o=>o.after.toList.all fun e => !Region.binds .any e||Zk e.on j
 | none=>Zv
def indep(ops:List Oper)(kV:List FP):Bool :=
 let bs:=xY ops
 S6 ops&&(List.range ops.length).all fun j=>match ops[j]?,kV[j]? with
  | some oj,Zz fj=>Bw ops bs kV j oj fj
  | _,_=>Zv
inductive Ex where
 | normal | ret | exit (id:Nat)
def Ex.PL{ρ:Type}(e:Ex)(a:ρ)(k:Ex->ρ):ρ:=match e with | .normal=>a | .ret=>k .ret | .exit j=>k (.exit j)
def Ex.tM{ρ:Type}(id:Nat)(e:Ex)(k:Ex->ρ):ρ:=match e with | .normal=>k .normal | .ret=>k .ret | .exit j=>bif Zy j id then k .normal else k (.exit j)
def Ex.Qj{ρ:Type}(e:Ex)(a:Option ρ):Option ρ:=match e with | .normal=>a | .ret=>none | .exit _=>none
def Ex.Q5{ρ:Type}(e:Ex)(a b:ρ):ρ:=match e with | .normal=>a | .ret=>a | .exit _=>b
def Ex.nU{σ:Type}(e:Ex)(s:σ):σ ⊕ (Ex×σ):=match e with | .normal => .inl s | .ret => .inr (.ret,s) | .exit j => .inr (.exit j,s)
def Bl:List Nat->List Nat
 | []=>[]
 | x::r=>bif (Bl r).contains x then Bl r else x::Bl r
def outs:Code->List Nat
 | .seq a b=>outs a++outs b
 | .cond _ a b=>outs a++outs b
 | .block id a=>(outs a).filter fun j => !Zy j id
 | .loop a=>outs a
 | .exit id=>[id]
 | _=>[]
def jp{ρ:Type}(e:Ex)(a:Option ρ)(f:Nat->Option ρ):Option ρ:=match e with | .normal=>none | .ret=>a | .exit j=>f j
def sR{ρ:Type}:List Nat->Nat->(Ex->Option ρ)->Option ρ
 | [],_,_=>none
 | i::is,j,k=>aD (Zy j i) (k (.exit i)) (sR is j k)
def Ex.out{ρ:Type}(ids:List Nat)(e:Ex)(k:Ex->Option ρ):Option ρ:=jp e (k .ret) fun j=>sR ids j k
theorem Ex.yg{ρ:Type}{ids:List Nat}{e:Ex}{k:Ex->Option ρ}{r:ρ}(h:Ex.out ids e k=Zz r):k e=Zz r:=by
 unfold Ex.out jp at h;cases e with
 | normal=>cases h
 | ret=>exact h
 | exit j =>
  simp only at h;induction ids with
  | nil=>cases h
  | cons i is ih =>
   simp only[sR,aD] at h;cases hb:Zy j i with
   | false=>rw[hb] at h;exact ih h
   | true=>rw[hb] at h;rw[Zx hb];exact h
def cV:Code->Nat
 | .region id _ _=>id
 | .seq a _=>cV a
 | .block _ a=>cV a
 | .loop a=>cV a
 | .scope a=>cV a
 | _=>0
def nk(st:Nat->br)(L:List Nat)(e z:Nat)(byte:Bool)(v:AV)(k:AV->List Nat->Option α):Option α :=
 match byte with
 | true=>match v with
  | .cJ=>k (.bE []) L
  | .row r=>match st r with
   | .dX e' l Zv=>az (Zy e e' && !L.contains r) (k (.bE l) (r::L))
   | _=>none
  | _=>none
 | false=>match v with
  | .cJ=>az (Zk 0 z) (k (.aF []) L)
  | .row r=>match st r with
   | .cU e' z' l Zv=>az (Zy e e'&&Zy z z' && !L.contains r) (k (.aF l) (r::L))
   | _=>none
  | _=>none
def yc(st:Nat->br)(L:List Nat)(s:Bool)(kd:IntKind)(v:AV)(k:AV->List Nat->Option α):Option α :=
 match v with
 | .mp r=>match st r with
  | .mO s' Za els=>az ((s==s')&&(kd==Za) && !L.contains r) (k (.aF els) (r::L))
  | _=>none
 | _=>none
def cN:List KC->List AV->(Nat->br)->List Nat->(List AV->(Nat->br)->List Nat->FP->Option α)->Option α
 | [],[],st,L,k=>k [] st L .none
 | .kq c::cs,v::vs,st,L,k=>zH c v st fun a bU fp=>az (fp.wr.all fun x => !L.contains x) (cN cs vs bU L fun l bL L2 f2=>k (a::l) bL L2 (fp.add f2))
 | .own _ e z b::cs,v::vs,st,L,k=>nk st L e z b v fun a L1=>cN cs vs st L1 fun l bL L2 f2=>k (a::l) bL L2 f2
 | .qh _ s kd::cs,v::vs,st,L,k=>yc st L s kd v fun a L1=>cN cs vs st L1 fun l bL L2 f2=>k (a::l) bL L2 f2
 | _,_,_,_,_=>none
def bX(sl:Nat->AV)(st:Nat->br)(L:List Nat)(h:iy)(k:List AV->(Nat->br)->List Nat->FP->Option α):Option α :=
 match h with
 | .val s ty=>(E.ty ty).bind fun i=>out i (sl s) st fun v bU fp=>az (fp.wr.all fun x => !L.contains x) (match cI i.kind with
  | true=>k v.cells bU L fp
  | false=>k [v] bU L fp)
 | .dX s e p=>match sl s with
  | .cJ=>k [.bE []] st L .none
  | .row r=>match st r with
   | .dX e' l q=>az (Zy e e'&&(p || !q) && !L.contains r) (k [.bE l] st (r::L) .none)
   | _=>none
  | _=>none
 | .cU s e z p=>match sl s with
  | .cJ=>az (Zk 0 z) (k [.aF []] st L .none)
  | .row r=>match st r with
   | .cU e' z' l q=>az (Zy e e'&&Zy z z'&&(p || !q) && !L.contains r) (k [.aF l] st (r::L) .none)
   | _=>none
  | _=>none
 | .ptr s b off=>match sl s with
  | .ptr b' Kb=>az (Zy b b'&&Zy off Kb) (k [] st L .none)
  | _=>none
 | .bA s b gB=>match sl s with
  | .bA b' Fu=>az (Zy b b'&&gB==Fu) (k [] st L .none)
  | _=>none
 | .cells b fX=>match st b with
  | .cells cs=>lU fX cs st fun l bU fp=>az ((fp.wr.all fun x => !L.contains x) && !L.contains b) (k l bU (b::L) fp)
  | _=>none
 | .h_ b p=>match st b with
  | .h_ l q=>az ((p || !q) && !L.contains b) (k [.bs l] st (b::L) .none)
  | _=>none
 | .jz b qA=>match st b with
  | .cells cs=>cN qA cs st L fun l bU L1 f1=>az (!L1.contains b) (k l bU (b::L1) f1)
  | _=>none
 | .rowAt b h e z=>match h with
  | true=>match st b with
   | .gU e' z' l=>az (Zy e e'&&Zy z z' && !L.contains b) (k [.aF l] st (b::L) .none)
   | _=>none
  | false=>match st b with
   | .cU e' z' l q=>az (Zy e e'&&Zy z z' && !q && !L.contains b) (k [.aF l] st (b::L) .none)
   | _=>none
 | .ga s b e z=>match sl s with
  | .bz b' e' z'=>az (Zy b b'&&Zy e e'&&Zy z z') (k [] st L .none)
  | _=>none
def dm(sl:Nat->AV):List iy->(Nat->br)->List Nat->(List AV->(Nat->br)->List Nat->FP->Option α)->Option α
 | [],st,L,k=>k [] st L .none
 | h::hs,st,L,k=>bX E sl st L h fun l bU L1 f1=>dm sl hs bU L1 fun r bL L2 f2=>k (l++r) bL L2 (f1.add f2)
def collect(fr:Fr)(hs:List iy)(k:List AV->Option α):Option α:=dm E fr.aO hs fr.st [] fun l _ _ _=>k l
def mn:List CT->List AV->(List AV->List AV->Option α)->Option α
 | [],l,k=>k [] l
 | c::cs,l,k=>ay l fun x r=>fq c x fun x'=>mn cs r fun a b=>k (x'::a) b
def fresh(st:Nat->br)(b:Nat)(k:Option α):Option α:=match st b with
 | .free=>k
 | _=>none
def l6(st:Nat->br)(b:Nat)(k:Option α):Option α:=match st b with
 | .free=>k
 | .dead=>k
 | _=>none
def cG:List KC->List AV->Fr->(List AV->List AV->Fr->Option α)->Option α
 | [],l,fr,k=>k [] l fr
 | .kq c::cs,l,fr,k=>ay l fun x r=>fq c x fun x'=>cG cs r fr fun a b dg=>k (x'::a) b dg
 | .own t e z b::cs,l,fr,k=>ay l fun x r=>match b with
  | true=>x.eF fun y=>fresh fr.st t (cG cs r ⟨fr.aO,cl fr.st t (.dX e y Zv)⟩ fun a b dg=>k (.row t::a) b dg)
  | false=>x.aR fun y=>fresh fr.st t (cG cs r ⟨fr.aO,cl fr.st t (.cU e z y Zv)⟩ fun a b dg=>k (.row t::a) b dg)
 | .qh t s kd::cs,l,fr,k=>ay l fun x r=>x.aR fun y=>fresh fr.st t (cG cs r ⟨fr.aO,cl fr.st t (.mO s kd y)⟩ fun a b dg=>k (.mp t::a) b dg)
def restore:List iy->List AV->Fr->(Fr->Option α)->Option α
 | [],l,fr,k=>aw l (k fr)
 | h::hs,l,fr,k =>
  match h with
  | .val s ty=>(E.ty ty).bind fun i=>match cI i.kind with
   | true=>mn i.fX l fun cs r=>restore hs r ⟨cl fr.aO s (.agg cs),fr.st⟩ k
   | false=>match i.fX with
    | [c]=>ay l fun x r=>fq c x fun x'=>restore hs r ⟨cl fr.aO s x',fr.st⟩ k
    | _=>none
  | .dX s e p=>ay l fun x r=>x.eF fun b=>fresh fr.st (8192+s) (restore hs r ⟨cl fr.aO s (.row (8192+s)),cl fr.st (8192+s) (.dX e b p)⟩ k)
  | .cU s e z p=>ay l fun x r=>x.aR fun b=>fresh fr.st (8192+s) (restore hs r ⟨cl fr.aO s (.row (8192+s)),cl fr.st (8192+s) (.cU e z b p)⟩ k)
  | .ptr s b off=>match fr.st b with
   | .cells _=>restore hs l ⟨cl fr.aO s (.ptr b off),fr.st⟩ k
   | .h_ _ _=>restore hs l ⟨cl fr.aO s (.ptr b off),fr.st⟩ k
   | _=>none
  | .bA s b gB=>match fr.st b with
   | .cells _=>restore hs l ⟨cl fr.aO s (.bA b gB),fr.st⟩ k
   | _=>none
  | .cells b fX=>mn fX l fun cs r=>l6 fr.st b (restore hs r ⟨fr.aO,cl fr.st b (.cells cs)⟩ k)
  | .h_ b p=>ay l fun x r=>x.eH fun c=>l6 fr.st b (restore hs r ⟨fr.aO,cl fr.st b (.h_ c p)⟩ k)
  | .jz b qA=>cG qA l fr fun cs r dg=>l6 dg.st b (restore hs r ⟨dg.aO,cl dg.st b (.cells cs)⟩ k)
  | .rowAt b h e z=>ay l fun x r=>x.aR fun y=>l6 fr.st b (match h with
   | true=>restore hs r ⟨fr.aO,cl fr.st b (.gU e z y)⟩ k
   | false=>restore hs r ⟨fr.aO,cl fr.st b (.cU e z y Zv)⟩ k)
  | .ga s b e z=>match fr.st b with
   | .gU .. => restore hs l ⟨cl fr.aO s (.bz b e z),fr.st⟩ k
   | _=>none
def nJ:Fr:=⟨fun _ => .undef,fun k=>bif E.hand.contains k then .dead else .free⟩
end
noncomputable def exec(E:Env)(rts:Nat->Option (List Nat))(n:Nat):Code->(α:Type)->Fr->(Ex->Fr->Option α)->Option α
 | .skip,_,fr,k=>k .normal fr
 | .label _,_,fr,k=>k .normal fr
 | .region id ops draw,_,fr,k=>match E.hJ (2000000+id) with
  | []=>eB E rts n ops.toList ops.toList fr fun bt kV=>az (!draw||indep ops.toList kV) (k .normal bt)
  | h::hs=>(eB E rts n ops.toList ops.toList fr fun bt kV=>az (!draw||indep ops.toList kV) (collect E bt (h::hs) Zz)).bind fun l=>restore E (h::hs) l (nJ E) fun bt=>k .normal bt
 | .seq a b,α,fr,k=>exec E rts n a α fr fun e bt=>e.PL (exec E rts n b α bt k) fun e=>k e bt
 | .cond c a b,α,fr,k=>match E.hJ (3000000+cV a) with
  | []=>(cn E fr c).bind fun v=>v.cR fun t=>aD t (exec E rts n a α fr k) (exec E rts n b α fr k)
  | h::hs=>((cn E fr c).bind fun v=>v.cR fun t=>aD t (exec E rts n a (List AV) fr fun e bt=>e.Qj (collect E bt (h::hs) Zz)) (exec E rts n b (List AV) fr fun e bt=>e.Qj (collect E bt (h::hs) Zz))).bind fun l=>restore E (h::hs) l (nJ E) fun bt=>k .normal bt
 | .block id a,α,fr,k=>exec E rts n a α fr fun e bt=>e.tM id fun e=>k e bt
 | .loop a,_,fr,k =>
  collect E fr (E.hJ (cV a)) fun KZ =>
   (bw (fun st=>restore E (E.hJ (cV a)) st (nJ E) fun P4=>exec E rts n a (List AV ⊕ (Ex×List AV)) P4 fun e bt =>
     collect E bt (E.hJ (cV a)) fun st'=>Zz (e.nU st')) KZ).bind fun r=>restore E (E.hJ (cV a)) r.2 (nJ E) fun bt=>Ex.out (Bl (outs a)) r.1 fun e=>k e bt
 | .exit id,_,fr,k=>k (.exit id) fr
 | .ret,_,fr,k=>k .ret fr
 | _,_,_,_=>none
def fV(args:List AV)(j:Nat):Option (Nat×Nat):=match args[j]? with
 | some (.bz _ e z)=>Zz (e,z)
 | _=>none
def CV(q:Option (Nat×Nat))(cs:List AV):br:=match q with
 | some q => .gU q.1 q.2 cs
 | none => .cells cs
def P7:Nat->List AV->Bool
 | _,[]=>Zn
 | j,a::r=>(match a with | .bz k _ _=>Zy k j | .ptr k _=>Zy k j | _=>Zn)&&P7 (j+1) r
def entry:Nat->List AV->List (Nat×List AV)->Fr
 | _,args,bV=>⟨fun i=>(args[i]?).getD .undef,fun b=>match bV.find? (fun x=>Zy x.1 b) with | some x=>CV (fV args b) x.2 | none => .free⟩
section
variable {α:Type} (E:Env)
def LC(fs:List (Nat×Nat))(i:TI)(st:Nat->br)(L:List Nat)(v:AV)(k:AV->(Nat->br)->List Nat->Option α):Option α :=
 match Nd E.ty fs with
 | some (j,e,ei)=>match v with
  | .agg cs=>match cs[j]? with
   | some (.row r)=>match st r with
    | .cU e' z l Zv=>az (Zy e e'&&Zy z ei.size && !L.contains r) (lU (i.fX.set j .bool) (cs.set j (.bool Zv)) st fun a bU fp=>az (fp.wr.all fun x => !(r::L).contains x) (k (.agg (a.set j (.aF l))) bU (r::L)))
    | _=>none
   | _=>none
  | _=>none
 | none=>out i v st fun a bU fp=>az (fp.wr.all fun x => !L.contains x) (k a bU L)
def DB(i:TI)(st:Nat->br)(L:List Nat)(own:Bool)(v:AV)(k:AV->(Nat->br)->List Nat->Option α):Option α :=
 match own with
 | false=>out i v st fun a bU fp=>az (fp.wr.all fun x => !L.contains x) (k a bU L)
 | true=>match i.kind with
  | .slice e Zn=>match v with
   | .cJ=>k (.bE []) st L
   | .row r=>match st r with
    | .dX e' l Zv=>az (Zy e e' && !L.contains r) (k (.bE l) st (r::L))
    | _=>none
   | _=>none
  | .slice e Zv=>match E.ty e with
   | none=>none
   | some ei=>match v with
    | .cJ=>az (Zk 0 ei.size) (k (.aF []) st L)
    | .row r=>match st r with
     | .cU e' z l Zv=>az (Zy e e'&&Zy z ei.size && !L.contains r) (k (.aF l) st (r::L))
     | _=>none
    | _=>none
  | .struct fs=>LC E fs i st L v k
  | _=>out i v st fun a bU fp=>az (fp.wr.all fun x => !L.contains x) (k a bU L)
def HO(sl:Nat->AV)(st:Nat->br)(L:List Nat)(r:ResultVar)(ty:Nat)(own:Bool)(k:AV->(Nat->br)->List Nat->Option α):Option α :=
 (E.ty ty).bind fun i=>match r with
  | .tmp t=>DB E i st L own (sl t) k
  | .cell a t=>(E.ty t).bind fun ti=>jb E ⟨sl,st⟩ ti (sl a) fun v _ _=>DB E i st L own v k
def sa(sl:Nat->AV):List ResultVar->List Nat->(Nat->br)->List Nat->Bool->(List AV->(Nat->br)->List Nat->Option α)->Option α
 | [],[],st,L,_,k=>k [] st L
 | r::rs,ty::jm,st,L,own,k=>HO E sl st L r ty own fun v bU L1=>sa sl rs jm bU L1 Zv fun l bL L2=>k (v::l) bL L2
 | _,_,_,_,_,_=>none
def oC(as:List AV):List (Nat×List AV)->List Nat->(Nat->br)->List Nat->(aC->Option α)->Option α
 | [],_,_,_,k=>k []
 | (b,_)::r,jm,st,L,k=>match st b,(jm[b]?).bind E.ty with
  | .cells cs,Zz { kind := .ptr e,.. }=>(E.ty e).bind fun ei=>lU ei.fX cs st fun l bU fp=>az (fp.wr.all fun x => !L.contains x) (oC as r jm bU L fun bs=>k (l::bs))
  | .gU e z els,_=>match fV as b with
   | some q=>az (Zy e q.1&&Zy z q.2) (oC as r jm st L fun bs=>k (els::bs))
   | none=>none
  | _,_=>none
end
noncomputable def ea(E:Env)(rts:Nat->Option (List Nat))(own:Bool)(fn:Func)(args:List AV)(bV:List (Nat×List AV))(hand:List Nat):Option (AV×aC) :=
 match fn.body with
 | none=>none
 | some c=>az (Zh args.length fn.ntmps&&P7 0 args) (exec { E with hand:=hand } rts fn.ntmps c (AV×aC) (entry 0 args bV) fun e fr=>e.Q5 (sa E fr.aO fn.results.toList fn.resultTypes.toList fr.st [] own fun vs st L=>oC E args bV fn.params.toList st L fun bs =>
   match vs with
   | [v]=>Zz (v,bs)
   | vs=>Zz (.aQ vs,bs)) none)
noncomputable def FM(E:Env)(rts:Nat->Option (List Nat))(own:Bool)(fn:Func)(args:List AV)(bV:List (Nat×List AV)):Option (AV×aC):=ea E rts own fn args bV (bV.map (·.1))
end Go.Abs
/- What follows from an eliminator's having a result. -/
namespace Go.Abs
theorem ku{α:Type}{c:CT}{v:AV}{k:AV->Option α}{r:α}(h:fq c v k=Zz r):k v=Zz r:=by
 unfold fq at h;split at h
 ·rename_i kd;unfold AV.ax at h;split at h
  ·rename_i _ k' n;cases he:(k'==kd) with
   | false=>rw[he] at h;cases h
   | true =>
    have:k'=kd:=by simpa using he
    subst this;rw[he] at h;exact h
  ·cases h
 ·unfold AV.nW at h;split at h<;>first | exact h | cases h
 ·unfold AV.cR at h;split at h<;>first | exact h | cases h
 ·unfold AV.gw at h;split at h<;>first | exact h | cases h
 ·unfold AV.eH at h;split at h<;>first | exact h | cases h
 ·rename_i z;unfold AV.hO at h;split at h
  ·rename_i _ z' l;cases he:Zy z' z with
   | false=>rw[he] at h;cases h
   | true =>
    have:=Zx he;subst this;rw[he] at h;exact h
  ·cases h
 ·cases h
theorem fv{α:Type}{l:List AV}{f:AV->List AV->Option α}{r:α}(h:ay l f=Zz r):∃ x t,l=x::t/\f x t=Zz r:=by
 unfold ay at h;split at h
 ·exact⟨_,_,rfl,h⟩
 ·cases h
theorem mb{α:Type}{l:List AV}{f:Option α}{r:α}(h:aw l f=Zz r):l=[]/\f=Zz r:=by
 unfold aw at h;split at h
 ·exact⟨rfl,h⟩
 ·cases h
theorem uj{α:Type}:∀ {cs:List CT} {l:List AV} {k:List AV->Option α} {r:α},l_ cs l k=Zz r->k l=Zz r
 | [],l,k,r,h=>by obtain⟨rfl,h⟩:=mb h;exact h
 | c::cs,l,k,r,h=>by
  simp only[l_] at h;obtain⟨x,t,rfl,h1⟩:=fv h;exact uj (k:=fun r'=>k (x::r')) (ku h1)
theorem sO{α:Type}{v:AV}{f:List AV->Option α}{r:α}(h:v.eu f=Zz r):∃ l,v = .agg l/\f l=Zz r:=by
 unfold AV.eu at h;split at h
 ·exact⟨_,rfl,h⟩
 ·cases h
theorem BQ{α:Type}{v:AV}{f:List AV->Option α}{r:α}(h:v.fI f=Zz r):∃ l,v = .aQ l/\f l=Zz r:=by
 unfold AV.fI at h;split at h
 ·exact⟨_,rfl,h⟩
 ·cases h
theorem sP{α:Type}{v:AV}{f:List UInt8->Option α}{r:α}(h:v.gw f=Zz r):∃ l,v = .str l/\f l=Zz r:=by
 unfold AV.gw at h;split at h
 ·exact⟨_,rfl,h⟩
 ·cases h
theorem zF{α:Type}{v:AV}{f:List UInt8->Option α}{r:α}(h:v.eH f=Zz r):∃ l,v = .bs l/\f l=Zz r:=by
 unfold AV.eH at h;split at h
 ·exact⟨_,rfl,h⟩
 ·cases h
theorem rQ{α:Type}{v:AV}{f:Bool->Option α}{s:Option α}{r:α}(h:v.nj f s=Zz r):(∃ l,v = .bool l/\f l=Zz r)\/(v = .aQ []/\s=Zz r):=by
 unfold AV.nj at h;split at h
 ·exact .inl ⟨_,rfl,h⟩
 ·exact .inr ⟨rfl,h⟩
 ·cases h
theorem Ke{α:Type}{v:AV}{f:Nat->List (Nat×Nat)->List (Nat×Nat)->Option α}{r:α}(h:v.I1 f=Zz r):(∃ n,v = .fn n/\f n [] []=Zz r)\/∃ n a b,v = .AB n a b/\f n a b=Zz r:=by
 unfold AV.I1 at h;split at h
 ·exact .inl ⟨_,rfl,h⟩
 ·exact .inr ⟨_,_,_,rfl,h⟩
 ·cases h
theorem qg{α:Type}{v:AV}{f:Bool->Option α}{r:α}(h:v.cR f=Zz r):∃ l,v = .bool l/\f l=Zz r:=by
 unfold AV.cR at h;split at h
 ·exact⟨_,rfl,h⟩
 ·cases h
theorem ul{α:Type}{v:AV}{f:List UInt8->Option α}{r:α}(h:v.eF f=Zz r):∃ l,v = .bE l/\f l=Zz r:=by
 unfold AV.eF at h;split at h
 ·exact⟨_,rfl,h⟩
 ·cases h
theorem nV{α:Type}{v:AV}{f:List AV->Option α}{r:α}(h:v.aR f=Zz r):∃ l,v = .aF l/\f l=Zz r:=by
 unfold AV.aR at h;split at h
 ·exact⟨_,rfl,h⟩
 ·cases h
theorem FA{α:Type}{v:AV}{z:Nat}{f:List AV->Option α}{r:α}(h:v.hO z f=Zz r):∃ l,v = .sl z l/\f l=Zz r:=by
 unfold AV.hO at h;split at h
 ·rename_i z' l;cases he:Zy z' z with
  | false=>rw[he] at h;cases h
  | true =>
   have:=Zx he;subst this;rw[he] at h;exact⟨l,rfl,h⟩
 ·cases h
theorem iF{α:Type}{i:TI}{v:AV}{k:AV->Option α}{r:α}(h:norm i v k=Zz r):k v=Zz r:=by
 unfold norm at h;split at h
 ·obtain⟨l,rfl,h⟩:=sO h;exact uj h
 ·split at h
  ·exact ku h
  ·cases h
theorem aH{α:Type}{b:Bool}{f:Option α}{r:α}(h:az b f=Zz r):b=Zn/\f=Zz r:=by
 cases b
 ·cases h
 ·exact⟨rfl,h⟩
theorem cf{α:Type}{b:Bool}{f:Option α}{r:α}(h:(bif b then f else none)=Zz r):b=Zn/\f=Zz r:=by
 cases b
 ·cases h
 ·exact⟨rfl,h⟩
theorem zG{α:Type}{l:aC}{f:Option α}{r:α}(h:aM l f=Zz r):l=[]/\f=Zz r:=by
 unfold aM at h;split at h
 ·exact⟨rfl,h⟩
 ·cases h
theorem xA{α:Type}{l:aC}{f:List AV->aC->Option α}{r:α}(h:aL l f=Zz r):∃ x t,l=x::t/\f x t=Zz r:=by
 unfold aL at h;split at h
 ·exact⟨_,_,rfl,h⟩
 ·cases h
theorem Dj{α:Type}{o v:AV}{k:AV->Option α}{r:α}(h:vM o v k=Zz r):k v=Zz r/\∀ (β:Type) (k2:AV->Option β),vM o v k2=k2 v:=by
 cases o<;>simp only[vM] at h ⊢;case int kd n =>
  cases v<;>simp only[AV.ax] at h ⊢ <;> try (cases h;done)
  rename_i k' m;cases he:(k'==kd) with
  | false=>rw[he] at h;cases h
  | true =>
   have:k'=kd:=by simpa using he
   subst this;rw[he] at h;exact⟨h,fun _ _=>rfl⟩
 case u8 b=>cases v<;>simp only[AV.nW] at h ⊢ <;> first | (cases h;done) | exact⟨h,fun _ _=>trivial⟩
 case bool b=>cases v<;>simp only[AV.cR] at h ⊢ <;> first | (cases h;done) | exact⟨h,fun _ _=>trivial⟩
 case str b=>cases v<;>simp only[AV.gw] at h ⊢ <;> first | (cases h;done) | exact⟨h,fun _ _=>trivial⟩
 case bs b=>cases v<;>simp only[AV.eH] at h ⊢ <;> first | (cases h;done) | exact⟨h,fun _ _=>trivial⟩
 case sl z b =>
  cases v<;>simp only[AV.hO] at h ⊢ <;> try (cases h;done)
  rename_i z' l;cases he:Zy z' z with
  | false=>rw[he] at h;cases h
  | true =>
   have:=Zx he;subst this;rw[he] at h;exact⟨h,fun _ _=>rfl⟩
 all_goals exact⟨h,fun _ _=>trivial⟩
theorem oR{α:Type}:∀ {os l:List AV} {k:List AV->Option α} {r:α},nw os l k=Zz r->k l=Zz r/\os.length=l.length/\∀ (β:Type) (k2:List AV->Option β),nw os l k2=k2 l
 | [],l,k,r,h=>by obtain⟨rfl,h⟩:=mb h;exact⟨h,rfl,fun _ _=>rfl⟩
 | o::os,l,k,r,h=>by
  simp only[nw] at h;obtain⟨x,t,rfl,h1⟩:=fv h;obtain⟨h2,d2⟩:=Dj h1;obtain⟨h3,e3,d3⟩:=oR (k:=fun r'=>k (x::r')) h2;exact⟨h3,by simp[e3],fun β k2=>by simp only[nw,ay];rw[d2,d3]⟩
theorem BV{α:Type}:∀ {l:List Nat} {n:Nat} {f:Nat->Option α} {r:α},zM l n f=Zz r->∃ o,l[n]? = Zz o/\f o=Zz r
 | [],n,f,r,h=>by cases h
 | o::l,n,f,r,h=>by
  simp only[zM,aD] at h;cases n with
  | zero=>exact⟨o,rfl,h⟩
  | succ n =>
   have hb:Zy (n+1) 0=Zv:=rfl;rw[hb] at h;obtain⟨o',h1,h2⟩:=BV h;exact⟨o',by simpa using h1,h2⟩
theorem tS{op:BinOp}{x y v:AV}(h:yC op x y=Zz (Zn,v)):lQ op x y=Zz v:=by
 have T3:∀ {o:Option AV},(o.map fun v=>(Zn,v))=Zz (Zn,v)->o=Zz v:=fun {o} h=>by
  cases o with
  | none=>cases h
  | some w=>cases h;rfl
 have TQ:∀ {f:IntKind->Int->Int->Bool} {gg:IntKind->Int->Int->AV},gD x y (fun k n m=>Zz (f k n m,gg k n m))=Zz (Zn,v)->gD x y (fun k n m=>az (f k n m) (Zz (gg k n m)))=Zz v:=by
  intro f gg h;unfold gD at h ⊢;split at h
  ·obtain⟨hb,h⟩:=cf h;rw[hb];simp only[Option.some.injEq,Prod.mk.injEq] at h;simp only[h.1,h.2,az,Qa5]
  ·simp only[Option.some.injEq,Prod.mk.injEq] at h;simp only[h.1,h.2,az,Qa5]
  ·cases h
 cases op<;>simp only[yC] at h<;>first | exact T3 h | exact TQ h | skip
 ·split at h
  ·simp only[Option.some.injEq,Prod.mk.injEq] at h;simp only[lQ,h.1,h.2,az,Qa5]
  ·exact T3 h
 all_goals
  split at h
  ·rename_i hm;simp only[Option.some.injEq,Prod.mk.injEq] at h;simp only[lQ,hm,h.1,h.2,az,Qa5]
  ·rename_i hm;simp only[Option.some.injEq,Prod.mk.injEq] at h;simp only[lQ,hm,h.1,h.2,az,Qa5]
  ·cases h
theorem Ev{i:TI}{op:BinOp}{x y v:AV}(h:CE i op x y=Zz (Zn,v)):CD i op x y=Zz v:=by
 cases x<;>simp only[CE,CD] at h ⊢ <;> try (first | exact tS h | (cases h;done))
 ·cases hk:i.kind<;>rw[hk] at h<;>simp only at h ⊢ <;> first | exact tS h | (cases h;done)
 ·cases he:i.SJ with
  | nil=>rw[he] at h;cases h
  | cons c r =>
   rw[he] at h;simp only at h ⊢;obtain⟨hb,h⟩:=cf h;rw[hb];exact tS h
theorem sS:∀ (cs:List AV) (off:Nat) (n:List AV),off+n.length<=cs.length->qj cs off n=place cs off n
 | [],off,n,h=>by
  have hn:n.length=0:=by simp only[List.length_nil] at h;omega
  have:n=[]:=Yz hn;subst this;simp[qj,place]
 | c::cs,0,n,h=>by
  cases n with
  | nil=>simp[qj,place]
  | cons x r =>
   have:=sS cs 0 r (by simp at h;omega);simp only[qj,this,place,List.take_zero,List.nil_append,Nat.zero_add,List.length_cons,List.drop_succ_cons,List.cons_append]
 | c::cs,k+1,n,h=>by
  have:=sS cs k n (by simp at h;omega);simp only[qj,this,place,List.take_succ_cons,List.cons_append];rw[show k+1+n.length=(k+n.length)+1 by omega,List.drop_succ_cons]
theorem rB{sz:Nat}:∀ {els:List AV},(∀ x∈els,x.cells.length=sz)->∀ {n:Nat} {x:AV},els[n]? = Zz x->∀ {j:Nat} {c:AV},x.cells[j]? = Zz c->(els.flatMap AV.cells)[n*sz+j]? = Zz c
 | [],_,n,x,h,_,_,_=>by simp at h
 | y::r,hs,n,x,h,j,c,hj=>by
  have hy:=hs y (by simp);rw[Zg];cases n with
  | zero =>
   simp at h;subst h;have:j<y.cells.length:=(Zq.1 hj).1;rw[Nat.zero_mul,Nat.zero_add,List.getElem?_append_left this];exact hj
  | succ n =>
   simp at h;have ih:=rB (fun z hz=>hs z (by simp[hz])) h hj;rw[List.getElem?_append_right (by rw[hy,Yy];omega)];rw[show(n+1)*sz+j-y.cells.length=n*sz+j by rw[hy,Yy];omega];exact ih
theorem ic{sz:Nat}:∀ {els:List AV},(∀ x∈els,x.cells.length=sz)->(els.flatMap AV.cells).length=els.length*sz
 | [],_=>by simp
 | x::r,h=>by
  rw[Zg,List.length_append,ic fun y hy=>h y (by simp[hy]),h x (by simp),List.length_cons,Yy];omega
theorem HD{α:Type}{c:CT}{v:AV}{k:AV->Option α}{r:α}(h:fq c v k=Zz r):v.cells=[v]:=by
 cases v<;>first | rfl | (cases c<;>simp[fq,AV.ax,AV.nW,AV.cR,AV.gw,AV.eH,AV.hO] at h)
theorem BO{α:Type}{i:TI}{v:AV}{k:AV->Option α}{r:α}(h:norm i v k=Zz r)(ha:cI i.kind=Zv):v.cells=[v]:=by
 unfold norm at h;rw[ha] at h;simp only at h;split at h
 ·exact HD h
 ·cases h
theorem vN{α:Type}{i:TI}{v:AV}{k:AV->Option α}{r:α}(h:norm i v k=Zz r):match v with | .bE _=>False | .aF _=>False | _=>True:=by
 cases v<;>try trivial
 all_goals
  unfold norm at h;split at h
  ·simp[AV.eu] at h
  ·split at h
   ·rename_i c _;cases c<;>simp[fq,AV.ax,AV.nW,AV.cR,AV.gw,AV.eH,AV.hO] at h
   ·cases h
theorem vL{α:Type}:∀ {fX:List CT} {cs:List AV} {k:List AV->Option α} {r:α},l_ fX cs k=Zz r->∀ (j:Nat) (l:List AV),cs[j]? = Zz (.aF l)->False
 | [],cs,k,r,h,j,l,hj=>by
  obtain⟨rfl,_⟩:=mb h;simp at hj
 | c::fX,cs,k,r,h,j,l,hj=>by
  obtain⟨x,q,rfl,h2⟩:=fv h;cases j with
  | zero =>
   simp only[List.getElem?_cons_zero,Option.some.injEq] at hj;subst hj;cases c<;>simp[fq,AV.ax,AV.nW,AV.cR,AV.gw,AV.eH,AV.hO] at h2
  | succ j =>
   have h3:=ku h2;exact vL h3 j l (by simpa using hj)
theorem zD{α:Type}{i:TI}{cs:List AV}{k:AV->Option α}{r:α}(h:norm i (.agg cs) k=Zz r)(j:Nat)(l:List AV)(hj:cs[j]? = Zz (.aF l)):False:=by
 unfold norm at h;split at h
 ·exact vL h j l hj
 ·split at h
  ·rename_i c _;cases c<;>simp[fq,AV.ax,AV.nW,AV.cR,AV.gw,AV.eH,AV.hO] at h
  ·cases h
theorem BN{α:Type}{t:Nat}:∀ {j:Nat} {fX:List CT} {cs:List AV} {k:List AV->List AV->Option α} {r:α},oB t j fX cs k=Zz r->∃ l,cs[j]? = Zz (.aF l)/\k (cs.set j (.row t)) l=Zz r
 | 0,[],cs,k,r,h=>by simp only[oB] at h;cases h
 | j+1,[],cs,k,r,h=>by simp only[oB] at h;cases h
 | 0,c::fX,cs,k,r,h=>by
  simp only[oB] at h;obtain⟨x,q,rfl,h2⟩:=fv h;obtain⟨l,rfl,h3⟩:=nV h2;exact⟨l,by simp,by simpa using uj h3⟩
 | j+1,c::fX,cs,k,r,h=>by
  simp only[oB] at h;obtain⟨x,q,rfl,h2⟩:=fv h;obtain⟨l,h4,h5⟩:=BN (ku h2);exact⟨l,by simpa using h4,by simpa using h5⟩
theorem JR{α:Type}{E:Env}{fs:List (Nat×Nat)}{t:Nat}{i:TI}{v:AV}{st:Nat->br}{k:AV->(Nat->br)->FP->Option α}{r:α}(h:E4 E fs t i v st k=Zz r) :
  (∃ cs j l e ei,v = .agg cs/\cs[j]? = Zz (.aF l)/\st t = .free/\Nd E.ty fs=Zz (j,e,ei)/\k (.agg (cs.set j (.row t))) (cl st t (.cU e ei.size l Zv)) ⟨[t],[t]⟩=Zz r)\/norm i v (fun v'=>k v' st .none)=Zz r:=by
 unfold E4 at h;split at h
 ·rename_i j e ei hf;split at h
  ·rename_i ht;obtain⟨cs,rfl,h2⟩:=sO h;obtain⟨l,h3,h4⟩:=BN h2;exact .inl ⟨cs,j,l,e,ei,rfl,h3,ht,hf,h4⟩
  ·cases h
 ·exact .inr h
end Go.Abs
/- The types of a program, as the abstract interpreter sees them. -/
namespace Go.Abs
def A2(P:Program)(t:Nat):Bool :=
 match P.underlying t,P.info? t with
 | some (.int .u8),Zz i=>i.size==1&&i.bytes==1&&(match i.zero with | some (.int .u8 0)=>Zn | _=>Zv)
 | _,_=>Zv
def sized(P:Program)(t:Nat):Bool:=match P.info? t with | some i=>Zk 0 i.size | none=>Zv
def Ip(P:Program):Nat->Nat->Option (List CT)
 | 0,_=>none
 | n+1,t=>match P.underlying t with
  | some (.int .u8)=>Zz [.u8]
  | some (.int k)=>Zz [.int k]
  | some .bool=>Zz [.bool]
  | some .string=>Zz [.str]
  | some (.slice e)=>Zz [if A2 P e then .ff else .sl (match P.info? e with | some i=>i.size | none=>0)]
  | some (.pointer _)=>Zz [.ptr]
  | some (.map _ _)=>Zz [.other]
  | some (.func _ _ _)=>Zz [.other]
  | some (.struct fs)=>fs.toList.foldr (fun f acc=>match Ip P n f.type,acc with | some a,Zz b=>Zz (a++b) | _,_=>none) (Zz [])
  | some (.array k e)=>match Ip P n e with
   | some l=>Zz ((List.replicate k l).flatten)
   | none=>none
  | _=>none
def fR(P:Program)(t:Nat):Option TK :=
 match P.underlying t with
 | some (.int .u8)=>Zz .u8
 | some (.int k)=>Zz (.int k)
 | some .bool=>Zz .bool
 | some .string=>Zz .str
 | some (.slice e)=>Zz (.slice e (A2 P e))
 | some (.pointer e)=>Zz (.ptr e)
 | some (.array n e)=>Zz (.cF n e (A2 P e))
 | some (.map k e)=>Zz (.map k e)
 | some (.struct fs) => if fs.toList.all (fun f => sized P f.type && f.name != "_") then Zz (.struct (fs.toList.map fun f => (f.offset, f.type))) else none
 | some (.func _ _ _)=>Zz .other
 | _=>none
def vE(P:Program):List Field->Nat->Bool
 | [],_=>Zn
 | f :: r, o => f.offset == o && f.name != "_" && (match P.info? f.type with | some i => Zk 0 i.size && vE P r (o + i.size) | none => Zv)
def Io(k:IntKind):CT:=match k with | .u8 => .u8 | k => .int k
def II(a:Option (List CT))(i:Option TypeInfo)(b:Option (List CT)):Option (List CT) :=
 match a with
 | some a=>match i with
  | some i=>match b with
   | some b=>if a.length=i.size then Zz (a++b) else none
   | none=>none
  | none=>none
 | none=>none
def tv(P:Program):Nat->Nat->Option (List CT)
 | 0,_=>none
 | n+1,t=>match P.underlying t,P.info? t with
  | some (.int k),Zz i=>if i.size=1 then Zz [Io k] else none
  | some .bool,Zz i=>if i.size=1 then Zz [.bool] else none
  | some .string,Zz i=>if i.size=1 then Zz [.str] else none
  | some (.struct fs),Zz i=>if P.stoodInHeld t=Zv/\vE P fs.toList 0=Zn then fs.toList.foldr (fun f acc=>II (tv P n f.type) (P.info? f.type) acc) (Zz []) else none
  | _,_=>none
def DT(z:Option Value)(k:TK):Bool:=match z with
 | some (.agg _)=>cI k
 | some _ => !cI k
 | none=>Zv
def d_(P:Program)(t:Nat):Option TI :=
 match P.info? t,fR P t,Ip P 20 t with
 | some i,Zz k,Zz fX=>match i.zero.bind fun v=>ni v.cells.toList with
  | some z=>if z.length=i.size&&fX.length=i.size&&DT i.zero k then Zz ⟨i.size,i.bytes,k,z,fX,if P.eqGuardType P.depth t=Zv then(tv P 20 t).getD [] else[]⟩ else none
  | none=>none
 | _,_,_=>none
end Go.Abs
/- What it means that a value of the model's, in a world, is one of the abstract interpreter's; and that this stays so. -/
namespace Go.Abs
abbrev bj:=Nat->Nat
def iU(b:UInt8):Value := .int .u8 b.toNat
inductive bG (w:World) (p:bj):Value->AV->Prop
 | int {k:IntKind} {n:Int} (hk:k ≠ .u8):bG w p (.int k n) (.int k n)
 | u8 {b:UInt8}:bG w p (iU b) (.u8 b)
 | bool {b:Bool}:bG w p (.bool b) (.bool b)
 | str {s:ByteArray} {l:List UInt8} (h:s.data.toList=l):bG w p (.string s) (.str l)
 | bs {a:Option Addr} {len cap:Nat} {l:List UInt8} (β off:Nat) (hl:l.length=len) (hc:len<=cap) (ha:len=0\/a=Zz ⟨β,off,none⟩)
   (h:∀ i b,l[i]? = Zz b->off+i<p β/\w.cell? ⟨β,off+i,none⟩=Zz (iU b)):bG w p (.slice a len cap) (.bs l)
 | sl {a:Option Addr} {len cap sz:Nat} {els:List AV} (β off:Nat) (vs:Nat->Value) (hl:els.length=len) (hc:len<=cap) (eQ:∀ e∈els,e.cells.length=sz) (ha:len=0\/a=Zz ⟨β,off,none⟩)
   (h:∀ j c,(els.flatMap AV.cells)[j]? = Zz c->off+j<p β/\w.cell? ⟨β,off+j,none⟩=Zz (vs j))
   (hr:∀ j c,(els.flatMap AV.cells)[j]? = Zz c->bG w p (vs j) c):bG w p (.slice a len cap) (.sl sz els)
 | cJ {a:Option Addr}:bG w p (.slice a 0 0) .cJ
 | lN:bG w p (.pointer none) .lN
 | Dh:bG w p (.map none) .Dh
 | vJ:bG w p .nilFunc .vJ
 | fn {f:Nat}:bG w p (.func (.func f) #[] #[]) (.fn f)
 | jg {β off:Nat} {cs:List AV} (vs:Nat->Value) (h:∀ j c,cs[j]? = Zz c->off+j<p β/\w.cell? ⟨β,off+j,none⟩=Zz (vs j))
   (hr:∀ j c,cs[j]? = Zz c->bG w p (vs j) c):bG w p (.pointer (Zz ⟨β,off,none⟩)) (.jg cs)
structure aU (R:Value->AV->Prop) (vs:List Value) (cs:List AV):Prop where
 len:vs.length=cs.length
 each:∀ (i:Nat) (v:Value) (c:AV),vs[i]? = Zz v->cs[i]? = Zz c->R v c
theorem aU.imp{R R':Value->AV->Prop}{vs:List Value}{cs:List AV}(h:aU R vs cs)(hr:∀ v c,R v c->R' v c):aU R' vs cs :=
 ⟨h.len,fun i v c hv hc=>hr v c (h.each i v c hv hc)⟩
theorem aU.nil{R:Value->AV->Prop}:aU R [] []:=⟨rfl,fun i v c hv=>by simp at hv⟩
theorem aU.cons{R:Value->AV->Prop}{v:Value}{c:AV}{vs:List Value}{cs:List AV}(h:R v c)(t:aU R vs cs):aU R (v::vs) (c::cs) :=
 ⟨by simp[t.len],fun i x y hx hy=>by
  cases i with
  | zero=>simp at hx hy;subst hx;subst hy;exact h
  | succ i=>simp at hx hy;exact t.each i x y hx hy⟩
theorem aU.gF{R:Value->AV->Prop}{vs:List Value}{c:AV}{cs:List AV}(h:aU R vs (c::cs)):∃ v OQ,vs=v::OQ/\R v c/\aU R OQ cs:=by
 cases vs with
 | nil=>have:=h.len;simp at this
 | cons v OQ=>exact⟨v,OQ,rfl,h.each 0 v c rfl rfl,by have:=h.len;simpa using this,fun i x y hx hy=>h.each (i+1) x y (by simpa using hx) (by simpa using hy)⟩
theorem aU.iN{R:Value->AV->Prop}{vs:List Value}(h:aU R vs []):vs=[]:=Yz (by simpa using h.len)
theorem aU.get{R:Value->AV->Prop}{vs:List Value}{cs:List AV}(h:aU R vs cs){i:Nat}{c:AV}(hc:cs[i]? = Zz c):∃ v,vs[i]? = Zz v/\R v c:=by
 have hi:i<cs.length:=(Zq.1 hc).1;have iS:i<vs.length:=by rw[h.len];exact hi
 exact⟨vs[i],Zb iS,h.each i _ c (Zb iS) hc⟩
theorem aU.drop{R:Value->AV->Prop}{vs:List Value}{cs:List AV}(h:aU R vs cs)(n:Nat):aU R (vs.drop n) (cs.drop n) :=
 ⟨by simp[h.len],fun i v c hv hc=>h.each (n+i) v c (by simpa using hv) (by simpa using hc)⟩
theorem aU.take{R:Value->AV->Prop}{vs:List Value}{cs:List AV}(h:aU R vs cs)(n:Nat):aU R (vs.take n) (cs.take n) :=
 ⟨by simp[h.len],fun i v c hv hc=>by
  rw[Zj] at hv hc;split at hv
  ·rw[Qa1 ‹_›] at hc;exact h.each i v c hv hc
  ·cases hv⟩
theorem aU.append{R:Value->AV->Prop}{vs us:List Value}{cs ds:List AV}(h:aU R vs cs)(k:aU R us ds):aU R (vs++us) (cs++ds) :=
 ⟨by simp[h.len,k.len],fun i v c hv hc=>by
  rw[List.getElem?_append] at hv hc;rw[h.len] at hv;split at hv
  ·rw[Qa1 ‹_›] at hc;exact h.each i v c hv hc
  ·rw[Qa0 ‹_›] at hc;exact k.each _ v c hv hc⟩
def bC:Value->Option Nat
 | .pointer (Zz a)=>Zz a.block
 | .slice (Zz a) _ cap=>if cap=0 then none else Zz a.block
 | .map (Zz r)=>Zz r
 | _=>none
section
variable (w:World) (p:bj) (g:Nat->Value) (u:Nat->Prop)
inductive cm:Value->AV->Prop
 | kq {v:Value} {a:AV} (h:bG w p v a):cm v a
 | ptr {k off β:Nat} (hu:u k) (hg:g k = .pointer (Zz ⟨β,0,none⟩)):cm (.pointer (Zz ⟨β,off,none⟩)) (.ptr k off)
 | jc {k i sz off β:Nat} (hu:u k) (hg:bC (g k)=Zz β):cm (.pointer (Zz ⟨β,i*sz+off,none⟩)) (.jc k i sz off)
 | row {k:Nat} (hu:u k) (hs:∃ a l c,g k = .slice a l c):cm (g k) (.row k)
 | mp {k β:Nat} (hu:u k) (hg:g k = .map (Zz β)):cm (.map (Zz β)) (.mp k)
 | bz {k e sz:Nat} (hu:u k) (hs:∃ a l c,g k = .slice a l c):cm (g k) (.bz k e sz)
 | bA {k β b cap:Nat} {gB:List Nat} (hu:u k) (hg:g k = .pointer (Zz ⟨b,0,none⟩)) (h:∀ (j off:Nat),gB[j]? = Zz off->j<p β/\w.cell? ⟨β,j,none⟩=Zz (.pointer (Zz ⟨b,off,none⟩))):cm (.slice (Zz ⟨β,0,none⟩) gB.length cap) (.bA k gB)
 | pE {k β j off b:Nat} (hu:u k) (hg:g k = .pointer (Zz ⟨b,0,none⟩)) (hp:j<p β) (hc:w.cell? ⟨β,j,none⟩=Zz (.pointer (Zz ⟨b,off,none⟩))):cm (.pointer (Zz ⟨β,j,none⟩)) (.pE k off)
 | pre {k n β l cap:Nat} (hu:u k) (hg:g k = .slice (Zz ⟨β,0,none⟩) l cap) (hn:n<=l):cm (.slice (Zz ⟨β,0,none⟩) n cap) (.pre k n)
 | DW {k m β l cap:Nat} {a:Option Addr} (hu:u k) (hg:g k = .slice (Zz ⟨β,0,none⟩) l cap) (hm:m<=l) (ha:m=l\/a=Zz ⟨β,m,none⟩):cm (.slice a (l-m) (cap-m)) (.DW k m)
 | AB {f:Nat} {vs us:Array Value} {fs cs:List (Nat×Nat)} (h1:vs.size=fs.length) (h2:us.size=cs.length)
   (hf:∀ (j k off:Nat),fs[j]? = Zz (k,off)->u k/\∃ β,g k = .pointer (Zz ⟨β,0,none⟩)/\vs[j]? = Zz (.pointer (Zz ⟨β,off,none⟩)))
   (hc:∀ (j k off:Nat),cs[j]? = Zz (k,off)->u k/\∃ β,g k = .pointer (Zz ⟨β,0,none⟩)/\us[j]? = Zz (.pointer (Zz ⟨β,off,none⟩))):cm (.func (.func f) vs us) (.AB f fs cs)
def uK(v:Value)(a:AV):Prop :=
 cm w p g u v a\/∃ cF cs,v = .agg cF/\a = .agg cs/\aU (cm w p g u) cF.toList cs
def bf(v:Value)(a:AV):Prop :=
 a = .undef\/uK w p g u v a\/∃ cF as,v = .tuple cF/\a = .aQ as/\aU (uK w p g u) cF.toList as
end
structure cu (w:World) (p:bj) (g:Nat->Value) (u:Nat->Prop) (w':World) (p':bj) (g':Nat->Value) (u':Nat->Prop):Prop where
 kG:∀ β,p β<=p' β
 cell:∀ β i,i<p β->w'.cell? ⟨β,i,none⟩=w.cell? ⟨β,i,none⟩
 gk:∀ k,u k->g' k=g k
 uk:∀ k,u k->u' k
theorem bG.mono{w w':World}{p p':bj}(hp:∀ β,p β<=p' β)(hc:∀ β i,i<p β->w'.cell? ⟨β,i,none⟩=w.cell? ⟨β,i,none⟩){v:Value}{a:AV}(h:bG w p v a):bG w' p' v a:=by
 induction h with
 | int hk=>exact .int hk
 | u8=>exact .u8
 | bool=>exact .bool
 | str h=>exact .str h
 | bs β off hl l7 ha h=>exact .bs β off hl l7 ha fun i b hb=>⟨Zf (h i b hb).1 (hp β),(hc β _ (h i b hb).1).trans (h i b hb).2⟩
 | sl β off vs hl l7 eQ ha h _ ih=>exact .sl β off vs hl l7 eQ ha (fun j c hj=>⟨Zf (h j c hj).1 (hp β),(hc β _ (h j c hj).1).trans (h j c hj).2⟩) ih
 | cJ=>exact .cJ
 | lN=>exact .lN
 | Dh=>exact .Dh
 | vJ=>exact .vJ
 | fn=>exact .fn
 | jg vs h _ ih=>exact .jg vs (fun j c hj=>⟨Zf (h j c hj).1 (hp _),(hc _ _ (h j c hj).1).trans (h j c hj).2⟩) ih
section
variable {w w':World} {p p':bj} {g g':Nat->Value} {u u':Nat->Prop}
theorem cu.refl:cu w p g u w p g u:=⟨fun _=>Zd _,fun _ _ _=>rfl,fun _ _=>rfl,fun _ h=>h⟩
theorem cu.trans{w'':World}{p'':bj}{g'':Nat->Value}{u'':Nat->Prop}(h:cu w p g u w' p' g' u')(k:cu w' p' g' u' w'' p'' g'' u''):cu w p g u w'' p'' g'' u'' :=
 ⟨fun β=>Nat.le_trans (h.kG β) (k.kG β),fun β i hi=>(k.cell β i (Zf hi (h.kG β))).trans (h.cell β i hi),fun x hx=>(k.gk x (h.uk x hx)).trans (h.gk x hx),fun x hx=>k.uk x (h.uk x hx)⟩
theorem cu.tf(m:cu w p g u w' p' g' u'){v:Value}{a:AV}(h:bG w p v a):bG w' p' v a:=h.mono m.kG m.cell
theorem cu.A_(m:cu w p g u w' p' g' u'){v:Value}{a:AV}(h:cm w p g u v a):cm w' p' g' u' v a:=by
 cases h with
 | kq h=>exact .kq (m.tf h)
 | ptr hu hg=>exact .ptr (m.uk _ hu) ((m.gk _ hu).trans hg)
 | jc hu hg=>exact .jc (m.uk _ hu) (by rw[m.gk _ hu];exact hg)
 | row hu hs=>rw[<-m.gk _ hu];exact .row (m.uk _ hu) (by rw[m.gk _ hu];exact hs)
 | mp hu hg=>exact .mp (m.uk _ hu) ((m.gk _ hu).trans hg)
 | bz hu hs=>rw[<-m.gk _ hu];exact .bz (m.uk _ hu) (by rw[m.gk _ hu];exact hs)
 | bA hu hg h=>exact .bA (m.uk _ hu) ((m.gk _ hu).trans hg) fun j off hj=>⟨Zf (h j off hj).1 (m.kG _),(m.cell _ _ (h j off hj).1).trans (h j off hj).2⟩
 | pE hu hg hp hc=>exact .pE (m.uk _ hu) ((m.gk _ hu).trans hg) (Zf hp (m.kG _)) ((m.cell _ _ hp).trans hc)
 | pre hu hg hn=>exact .pre (m.uk _ hu) ((m.gk _ hu).trans hg) hn
 | DW hu hg hm ha=>exact .DW (m.uk _ hu) ((m.gk _ hu).trans hg) hm ha
 | AB h1 h2 hf hc=>exact .AB h1 h2 (fun j k off hj=>by obtain⟨hu,β,hg,hv⟩:=hf j k off hj;exact⟨m.uk _ hu,β,(m.gk _ hu).trans hg,hv⟩) (fun j k off hj=>by obtain⟨hu,β,hg,hv⟩:=hc j k off hj;exact⟨m.uk _ hu,β,(m.gk _ hu).trans hg,hv⟩)
theorem cu.Ks(m:cu w p g u w' p' g' u'){v:Value}{a:AV}(h:uK w p g u v a):uK w' p' g' u' v a:=by
 rcases h with h | ⟨cF,cs,rfl,rfl,h⟩
 ·exact .inl (m.A_ h)
 ·exact .inr ⟨cF,cs,rfl,rfl,h.imp fun _ _=>m.A_⟩
theorem cu.xW(m:cu w p g u w' p' g' u'){v:Value}{a:AV}(h:bf w p g u v a):bf w' p' g' u' v a:=by
 rcases h with h | h | ⟨cF,cs,rfl,rfl,h⟩
 ·exact .inl h
 ·exact .inr (.inl (m.Ks h))
 ·exact .inr (.inr ⟨cF,cs,rfl,rfl,h.imp fun _ _=>m.Ks⟩)
end
def jH(w:World)(B e size:Nat)(v:Value)(n:Nat)(xs:List Value):Prop :=
 xs.length=n*size/\((n=0/\∃ a,v = .slice a 0 0) \/
  ∃ β cap iV,v = .slice (Zz ⟨β,0,none⟩) n cap/\0<cap/\B<=β/\w.heap[β]? = Zz (.cells iV e (0,0))/\n<=cap/\cap<=maxLen/\iV.size=cap*size/\iV.toList.take (n*size)=xs)
def used(st:Nat->br)(k:Nat):Prop:=st k ≠ .free
def tL(w:World)(p:bj)(β e sz cap:Nat)(els:List AV):Prop :=
 0<sz/\(∀ x∈els,x.cells.length=sz)/\0<cap/\els.length<=cap/\cap<=maxLen/\p β=0/\∃ iV vs,w.heap[β]? = Zz (.cells iV e (0,0))/\iV.size=cap*sz/\vs.length=els.length*sz/\iV.toList.take (els.length*sz)=vs/\aU (bG w p) vs (els.flatMap AV.cells)
def wz(w:World)(p:bj)(s:Bool)(kd:IntKind)(es:Array MapEntry)(els:List AV):Prop :=
 es.size=els.length/\∀ (i:Nat) (e:MapEntry) (a:AV),es[i]? = Zz e->els[i]? = Zz a->∃ ka va,a = .aQ [ka,va]/\oz s kd ka=Zn/\bG w p e.key ka/\(bG w p e.val va\/∃ cF cs,e.val = .agg cF/\va = .agg cs/\aU (bG w p) cF.toList cs)
theorem tL.hJ{w w':World}{p p':bj}{β e sz cap:Nat}{els:List AV}(h:tL w p β e sz cap els)(hr:∀ v a,bG w p v a->bG w' p' v a)(e1:w'.heap[β]? = w.heap[β]?)(e2:p' β=p β):tL w' p' β e sz cap els:=by
 obtain⟨h1,h2,h3,h4,h5,h6,iV,vs,h7,h8,h9,Q_,Ts⟩:=h;exact⟨h1,h2,h3,h4,h5,e2.trans h6,iV,vs,e1.trans h7,h8,h9,Q_,Ts.imp hr⟩
theorem wz.mono{w w':World}{p p':bj}{s:Bool}{kd:IntKind}{es:Array MapEntry}{els:List AV}(h:wz w p s kd es els)(hr:∀ v a,bG w p v a->bG w' p' v a):wz w' p' s kd es els:=by
 refine⟨h.1,fun i e a he ha=> ?_⟩;obtain⟨ka,va,h1,h2,h3,h4⟩:=h.2 i e a he ha;refine⟨ka,va,h1,h2,hr _ _ h3,?_⟩;rcases h4 with h4 | ⟨cF,cs,e1,e2,e3⟩
 ·exact .inl (hr _ _ h4)
 ·exact .inr ⟨cF,cs,e1,e2,e3.imp hr⟩
def lO(w:World)(p:bj)(g:Nat->Value)(u:Nat->Prop)(B:Nat)(M:Nat->Prop)(k:Nat):br->Prop
 | .free=>True
 | .dead=>True
 | .cells cs=>∃ β c e,g k = .pointer (Zz ⟨β,0,none⟩)/\(M β\/B<=β)/\w.heap[β]? = Zz (.cells c e (0,0))/\aU (cm w p g u) c.toList cs/\p β=0
 | .h_ l gC=>∃ β c e,g k = .pointer (Zz ⟨β,0,none⟩)/\B<=β/\w.heap[β]? = Zz (.cells c e (0,0))/\c.toList=l.map iU/\p β<=l.length/\(gC=Zv->p β=0)
 | .dX e l gC=>jH w B e 1 (g k) l.length (l.map iU)/\∀ β,bC (g k)=Zz β->p β<=l.length/\(gC=Zv->p β=0)
 | .cU e sz els gC=>0<sz/\(∀ x∈els,x.cells.length=sz)/\∃ vs,jH w B e sz (g k) els.length vs/\aU (bG w p) vs (els.flatMap AV.cells) /\
   ∀ β,bC (g k)=Zz β->p β<=els.length*sz/\(gC=Zv->p β=0)
 | .mO s kd els=>∃ β es clock,g k = .map (Zz β)/\B<=β/\w.heap[β]? = Zz (.map es clock)/\wz w p s kd es els/\p β=0
 | .gU e sz els=>∃ β cap,g k = .slice (Zz ⟨β,0,none⟩) els.length cap/\(M β\/B<=β)/\tL w p β e sz cap els
def br.live:br->Prop
 | .free=>False
 | .dead=>False
 | _=>True
structure bM (B:Nat) (M:Nat->Prop) (w0:World) (p0:bj) (w:World) (p:bj) (g:Nat->Value) (st:Nat->br):Prop where
 os:w.os=w0.os
 tape:w.tape=w0.tape
 output:w.output=w0.output
 size:B<=w.heap.size
 old:∀ β,β<B->¬ M β->w.heap[β]? = w0.heap[β]?
 lK:∀ k,lO w p g (used st) B M k (st k)
 qL:∀ k k' β,k≠k'->(st k).live->(st k').live->bC (g k)=Zz β->bC (g k')≠Zz β
 ly:∀ β,w.heap.size<=β->p β=0
 Kc:∀ β,β<B->p β=p0 β
theorem eC{w:World}{β i:Nat}{c:Array Value}{e:TypeId}{f:Nat×Nat}(h:w.heap[β]? = Zz (.cells c e f)):w.cell? ⟨β,i,none⟩=c[i]? := by
 simp[World.cell?,h]
theorem jV{w:World}{β:Nat}{o:Obj}(h:w.heap[β]? = Zz o):β<w.heap.size:=(Array.getElem?_eq_some_iff.1 h).1
theorem nu{w w':World}{β:Nat}(h:w'.heap[β]? = w.heap[β]?)(i:Nat):w'.cell? ⟨β,i,none⟩=w.cell? ⟨β,i,none⟩:=by
 simp[World.cell?,h]
theorem aP{β:Type}(f:Nat->β)(k:Nat)(b:β):cl f k b k=b:=by simp[cl]
theorem bI{β:Type}(f:Nat->β){k x:Nat}(b:β)(h:x≠k):cl f k b x=f x:=by
 have hb:Zy x k=Zv:=by
  cases hb:Zy x k
  ·rfl
  ·exact absurd (Zx hb) h
 simp[cl,hb]
theorem jH.hJ{w w':World}{B e size:Nat}{v:Value}{n:Nat}{xs:List Value}(h:jH w B e size v n xs)(hk:∀ β,bC v=Zz β->w'.heap[β]? = w.heap[β]?):jH w' B e size v n xs:=by
 obtain⟨hl,h | ⟨β,cap,iV,rfl,h0,hB,hh,r⟩⟩:=h
 ·exact⟨hl,.inl h⟩
 ·exact⟨hl,.inr ⟨β,cap,iV,rfl,h0,hB,by rw[hk β (by simp[bC];omega)];exact hh,r⟩⟩
theorem lO.hJ{w w':World}{p p':bj}{g g':Nat->Value}{u u':Nat->Prop}{B:Nat}{M:Nat->Prop}{k:Nat}{b:br}(h:lO w p g u B M k b)(m:cu w p g u w' p' g' u')(hu:u k)
  (hk:∀ β,bC (g k)=Zz β->w'.heap[β]? = w.heap[β]? /\ p' β=p β):lO w' p' g' u' B M k b:=by
 have hg:=m.gk k hu;cases b with
 | free=>trivial
 | dead=>trivial
 | cells cs =>
  obtain⟨β,c,e,h1,h2,h3,h4,h5⟩:=h;obtain⟨e1,e2⟩:=hk β (by rw[h1];rfl);exact⟨β,c,e,hg.trans h1,h2,e1.trans h3,h4.imp fun _ _=>m.A_,e2.trans h5⟩
 | h_ l gC =>
  obtain⟨β,c,e,h1,h2,h3,h4,h5,h6⟩:=h;obtain⟨e1,e2⟩:=hk β (by rw[h1];rfl);exact⟨β,c,e,hg.trans h1,h2,e1.trans h3,h4,by rw[e2];exact h5,fun x=>e2.trans (h6 x)⟩
 | dX e l gC =>
  obtain⟨h1,h2⟩:=h;refine⟨by rw[hg];exact h1.hJ fun β hb=>(hk β hb).1,fun β hb=> ?_⟩;rw[hg] at hb;rw[(hk β hb).2];exact h2 β hb
 | cU e sz els gC =>
  obtain⟨h0,h1,vs,h2,h3,h4⟩:=h;refine⟨h0,h1,vs,by rw[hg];exact h2.hJ fun β hb=>(hk β hb).1,h3.imp fun _ _=>m.tf,fun β hb=> ?_⟩;rw[hg] at hb;rw[(hk β hb).2];exact h4 β hb
 | mO s kd els =>
  obtain⟨β,es,clock,h1,h2,h3,h4,h5⟩:=h;obtain⟨e1,e2⟩:=hk β (by rw[h1];rfl);exact⟨β,es,clock,hg.trans h1,h2,e1.trans h3,h4.mono fun _ _=>m.tf,e2.trans h5⟩
 | gU e sz els =>
  obtain⟨β,cap,h1,h2,h3⟩:=h;obtain⟨e1,e2⟩:=hk β (by rw[h1];have:=h3.2.2.1;simp[bC];omega);exact⟨β,cap,hg.trans h1,h2,h3.hJ (fun _ _=>m.tf) e1 e2⟩
theorem nv{st:Nat->br}{k:Nat}(h:(st k).live):used st k:=fun e=>by rw[e] at h;exact h
theorem lO.s8{w:World}{p:bj}{g:Nat->Value}{u:Nat->Prop}{B:Nat}{M:Nat->Prop}{k:Nat}{b:br}(h:lO w p g u B M k b)(hl:b.live){β:Nat}(hv:bC (g k)=Zz β):β<w.heap.size:=by
 cases b with
 | free=>exact hl.elim
 | dead=>exact hl.elim
 | cells cs=>obtain⟨β',c,e,h1,h2,h3,_⟩:=h;rw[h1] at hv;cases hv;exact jV h3
 | h_ l gC=>obtain⟨β',c,e,h1,h2,h3,_⟩:=h;rw[h1] at hv;cases hv;exact jV h3
 | dX e l gC =>
  obtain⟨⟨_,⟨_,a,h⟩ | ⟨β',cap,iV,h,h0,hB,hh,_⟩⟩,_⟩:=h
  ·rw[h] at hv;cases a<;>simp[bC] at hv
  ·rw[h] at hv;have:β'=β:=by simp[bC] at hv;exact hv.2
   subst this;exact jV hh
 | cU e sz els gC =>
  obtain⟨_,_,vs,⟨_,⟨_,a,h⟩ | ⟨β',cap,iV,h,h0,hB,hh,_⟩⟩,_⟩:=h
  ·rw[h] at hv;cases a<;>simp[bC] at hv
  ·rw[h] at hv;have:β'=β:=by simp[bC] at hv;exact hv.2
   subst this;exact jV hh
 | mO s kd els=>obtain⟨β',es,clock,h1,h2,h3,_⟩:=h;rw[h1] at hv;cases hv;exact jV h3
 | gU e sz els =>
  obtain⟨β',cap,h1,h2,h3,h4,h5,h6,h7,h8,iV,vs,h9,_⟩:=h;rw[h1] at hv;have:β'=β:=by simp[bC] at hv;exact hv.2
  subst this;exact jV h9
theorem bM.change{B:Nat}{M:Nat->Prop}{w0:World}{p0:bj}{w w':World}{p p':bj}{g g':Nat->Value}{st st':Nat->br}(h:bM B M w0 p0 w p g st)
  (RA:w'.os=w.os) (yZ:w'.tape=w.tape) (C2:w'.output=w.output) (eQ:w.heap.size<=w'.heap.size)
  (K D:Nat->Prop) (cW:∀ k,¬ K k->st' k=st k) (hu:∀ k,used st k->used st' k) (hg:∀ k,used st k->g' k=g k)
  (nQ:∀ β,β<w.heap.size->¬ D β->w'.heap[β]? = w.heap[β]? /\ p' β=p β)
  (hD:∀ β,D β->β<B->M β/\p' β=p β)
  (rG:∀ β,p β<=p' β) (hcell:∀ β i,i<p β->w'.cell? ⟨β,i,none⟩=w.cell? ⟨β,i,none⟩)
  (EU:∀ β,w'.heap.size<=β->p' β=0)
  (TC:∀ k β,¬ K k->(st k).live->bC (g k)=Zz β->¬ D β)
  (hK:∀ k,K k->lO w' p' g' (used st') B M k (st' k))
  (P9:∀ k k' β,K k->k'≠k->(st' k).live->(st' k').live->bC (g' k)=Zz β->bC (g' k')≠Zz β) :
  bM B M w0 p0 w' p' g' st'/\cu w p g (used st) w' p' g' (used st'):=by
 have hm:cu w p g (used st) w' p' g' (used st'):=⟨rG,hcell,hg,hu⟩;refine⟨⟨RA.trans h.os,yZ.trans h.tape,C2.trans h.output,Nat.le_trans h.size eQ,fun β hβ hM=> ?_,fun k=> ?_,fun k k' β gj hl qw hv=> ?_,EU,fun β hβ=> ?_⟩,hm⟩
 ·have hnD:¬ D β:=fun hd=>hM (hD β hd hβ).1;exact(nQ β (Zf hβ h.size) hnD).1.trans (h.old β hβ hM)
 ·by_cases hk:K k
  ·exact hK k hk
  ·have hs:=cW k hk;rw[hs];by_cases hl:(st k).live
   ·exact(h.lK k).hJ hm (nv hl) fun β hv=>nQ β ((h.lK k).s8 hl hv) (TC k β hk hl hv)
   ·cases hb:st k<;>first | trivial | (rw[hb] at hl;exact absurd trivial hl)
 ·by_cases hk:K k
  ·exact P9 k k' β hk (Ne.symm gj) hl qw hv
  ·by_cases oT:K k'
   ·intro y0;exact P9 k' k β oT gj qw hl y0 hv
   ·rw[cW k hk] at hl;rw[cW k' oT] at qw;rw[hg k (nv hl)] at hv;rw[hg k' (nv qw)];exact h.qL k k' β gj hl qw hv
 ·by_cases hd:D β
  ·exact(hD β hd hβ).2.trans (h.Kc β hβ)
  ·exact(nQ β (Zf hβ h.size) hd).2.trans (h.Kc β hβ)
section
variable {B:Nat} {M:Nat->Prop} {w0:World} {p0:bj} {w w':World} {p p':bj} {g:Nat->Value} {st:Nat->br}
theorem n7{t:Nat}{b:br}(hb:b ≠ .free){k:Nat}(h:used st k):used (cl st t b) k:=by
 by_cases e:k=t
 ·subst e;unfold used;rw[aP];exact hb
 ·unfold used;rw[bI _ _ e];exact h
theorem bM.add(h:bM B M w0 p0 w p g st){t:Nat}{b:br}{v:Value}(ht:st t = .free)(hb:b ≠ .free)
  (RA:w'.os=w.os) (yZ:w'.tape=w.tape) (C2:w'.output=w.output) (eQ:w.heap.size<=w'.heap.size)
  (nQ:∀ β,β<w.heap.size->w'.heap[β]? = w.heap[β]? /\ p' β=p β) (rG:∀ β,p β<=p' β) (EU:∀ β,w'.heap.size<=β->p' β=0)
  (hv:∀ β,bC v=Zz β->w.heap.size<=β)
  (hB:cu w p g (used st) w' p' (cl g t v) (used (cl st t b))->lO w' p' (cl g t v) (used (cl st t b)) B M t b) :
  bM B M w0 p0 w' p' (cl g t v) (cl st t b)/\cu w p g (used st) w' p' (cl g t v) (used (cl st t b)):=by
 have hu:∀ k,used st k->used (cl st t b) k:=fun k hk=>n7 hb hk;have hg:∀ k,used st k->cl g t v k=g k:=fun k hk=>bI _ _ (fun e=>by subst e;exact hk ht);have hcell:∀ β i,i<p β->w'.cell? ⟨β,i,none⟩=w.cell? ⟨β,i,none⟩:=fun β i hi=>by
  rcases Nat.lt_or_ge β w.heap.size with eY | yT
  ·exact nu (nQ β eY).1 i
  ·rw[h.ly β yT] at hi;omega
 refine h.change RA yZ C2 eQ (fun k=>k=t) (fun _=>False) (fun k hk=>bI _ _ hk) hu hg (fun β hβ _=>nQ β hβ) (fun _ hd=>hd.elim) rG hcell EU (fun _ _ _ _ _ hd=>hd.elim) ?_ ?_
 ·rintro k rfl;rw[aP];exact hB ⟨rG,hcell,hg,hu⟩
 ·rintro k k' β rfl gj _ qw IF mB;rw[aP] at IF;rw[bI _ _ gj] at qw mB;have h1:=hv β IF;have h2:=(h.lK k').s8 qw mB;omega
theorem bM.modify(h:bM B M w0 p0 w p g st){k:Nat}{b:br}{β₀:Nat}(hk:(st k).live)(hb:b.live)(hβ:bC (g k)=Zz β₀)
  (RA:w'.os=w.os) (yZ:w'.tape=w.tape) (C2:w'.output=w.output) (eQ:w'.heap.size=w.heap.size)
  (nQ:∀ β,β≠β₀->w'.heap[β]? = w.heap[β]? /\ p' β=p β) (XP:β₀<B->M β₀/\p' β₀=p β₀)
  (rG:p β₀<=p' β₀) (hcell:∀ i,i<p β₀->w'.cell? ⟨β₀,i,none⟩=w.cell? ⟨β₀,i,none⟩)
  (hB:cu w p g (used st) w' p' g (used (cl st k b))->lO w' p' g (used (cl st k b)) B M k b) :
  bM B M w0 p0 w' p' g (cl st k b)/\cu w p g (used st) w' p' g (used (cl st k b)):=by
 have JA:b ≠ .free:=fun e=>by rw[e] at hb;exact hb
 have hu:∀ j,used st j->used (cl st k b) j:=fun j hj=>n7 JA hj;have eY:β₀<w.heap.size:=(h.lK k).s8 hk hβ;have L7:∀ β,p β<=p' β:=fun β=>by
  by_cases e:β=β₀
  ·subst e;exact rG
  ·rw[(nQ β e).2];exact Zd _
 have LP:∀ β i,i<p β->w'.cell? ⟨β,i,none⟩=w.cell? ⟨β,i,none⟩:=fun β i hi=>by
  by_cases e:β=β₀
  ·subst e;exact hcell i hi
  ·exact nu (nQ β e).1 i
 refine h.change RA yZ C2 (by omega) (fun j=>j=k) (fun β=>β=β₀) (fun j hj=>bI _ _ hj) hu (fun _ _=>rfl) (fun β _ hd=>nQ β hd) (fun β hd Yt=>by subst hd;exact XP Yt) L7 LP ?_ ?_ ?_ ?_
 ·intro β hβ;rw[(nQ β (by omega)).2];exact h.ly β (by omega)
 ·rintro j β hj hl hv rfl;exact h.qL j k β hj hl hk hv hβ
 ·rintro j rfl;rw[aP];exact hB ⟨L7,LP,fun _ _=>rfl,hu⟩
 ·rintro j j' β rfl gj _ qw IF mB;rw[bI _ _ gj] at qw;exact h.qL j j' β (Ne.symm gj) hk qw IF mB
end
end Go.Abs
/- The types' facts; constants; operations that touch no memory. -/
namespace Go.Abs
theorem a_{P:Program}{t:Nat}{i:TI}(h:d_ P t=Zz i):∃ info z,P.info? t=Zz info/\info.size=i.size/\info.bytes=i.bytes/\info.zero=Zz z/\ni z.cells.toList=Zz i.zero/\i.zero.length=i.size/\i.fX.length=i.size/\fR P t=Zz i.kind/\Ip P 20 t=Zz i.fX/\i.SJ=(if P.eqGuardType P.depth t=Zv then(tv P 20 t).getD [] else[]):=by
 unfold d_ at h;split at h
 ·rename_i info k fX h1 h2 h3;cases hz:info.zero with
  | none=>simp[hz] at h
  | some z =>
   cases hc:ni z.cells.toList with
   | none=>simp[hz,hc] at h
   | some cs =>
    simp only[hz,Option.bind_some,hc] at h;split at h
    ·rename_i hl;simp at hl;cases h;exact⟨info,z,h1,rfl,rfl,hz,hc,hl.1.1,hl.1.2,h2,h3,rfl⟩
    ·cases h
 ·cases h
theorem J7{P:Program}{t:Nat}{i:TI}(h:d_ P t=Zz i):∃ info,P.info? t=Zz info/\DT info.zero i.kind=Zn:=by
 unfold d_ at h;split at h
 ·rename_i info k fX h1 h2 h3;split at h
  ·split at h
   ·rename_i hl;simp only[Zp] at hl;cases h;exact⟨info,h1,hl.2⟩
   ·cases h
  ·cases h
 ·cases h
theorem dE{P:Program}{t e:Nat}{b:Bool}(h:fR P t=Zz (.slice e b)):P.underlying t=Zz (.slice e)/\b=A2 P e:=by grind [fR]
theorem pn{P:Program}{t n e:Nat}{b:Bool}(h:fR P t=Zz (.cF n e b)):P.underlying t=Zz (.array n e)/\b=A2 P e:=by grind [fR]
theorem Ml{P:Program}{t e:Nat}(h:fR P t=Zz (.ptr e)):P.underlying t=Zz (.pointer e):=by grind [fR]
theorem lm{P:Program}{t:Nat}(h:fR P t=Zz .str):P.underlying t=Zz .string:=by grind [fR]
theorem BC{P:Program}{t:Nat}(h:fR P t=Zz .bool):P.underlying t=Zz .bool:=by grind [fR]
theorem IL{P:Program}{t:Nat}(h:fR P t=Zz .u8):P.underlying t=Zz (.int .u8):=by grind [fR]
theorem zk{P:Program}{t:Nat}{k:IntKind}(h:fR P t=Zz (.int k)):P.underlying t=Zz (.int k)/\k ≠ .u8:=by grind [fR]
theorem mL {P : Program} {t : Nat} {fs : List (Nat × Nat)} (h : fR P t = Zz (.struct fs)) : ∃ fields, P.underlying t = Zz (.struct fields) ∧ (∀ f ∈ fields.toList, sized P f.type = Zn ∧ f.name ≠ "_") ∧ fs = fields.toList.map fun f => (f.offset, f.type) := by grind [fR]
theorem vA{P:Program}{t k e:Nat}(h:fR P t=Zz (.map k e)):P.underlying t=Zz (.map k e):=by grind [fR]
theorem Hq{P:Program}{t:Nat}(h:fR P t=Zz .other):∃ a b c,P.underlying t=Zz (.func a b c):=by grind [fR]
theorem g_{P:Program}{e:Nat}(h:A2 P e=Zn):P.underlying e=Zz (.int .u8)/\∃ info,P.info? e=Zz info/\info.size=1/\info.bytes=1/\info.zero=Zz (.int .u8 0):=by
 unfold A2 at h;split at h
 ·rename_i i h1 h2;simp only[Zp,Qb0] at h;refine⟨h1,i,h2,h.1.1,h.1.2,?_⟩;have h3:=h.2;split at h3
  ·assumption
  ·cases h3
 ·cases h
theorem nC{P:Program}{t:Nat}{k:TK}(h:fR P t=Zz k)(w:World):(isAgg t).run P w = .ok (cI k) w:=by
 unfold isAgg;cases k with
 | int k=>simp[run_underlying (zk h).1,cI]
 | u8=>simp[run_underlying (IL h),cI]
 | bool=>simp[run_underlying (BC h),cI]
 | str=>simp[run_underlying (lm h),cI]
 | slice e b=>simp[run_underlying (dE h).1,cI]
 | cF n e b=>simp[run_underlying (pn h).1,cI]
 | struct fs=>obtain⟨fields,hu,_⟩:=mL h;simp[run_underlying hu,cI]
 | ptr e=>simp[run_underlying (Ml h),cI]
 | map a b=>simp[run_underlying (vA h),cI]
 | other=>obtain⟨a,b,c,hu⟩:=Hq h;simp[run_underlying hu,cI]
theorem run_sizeOf{P:Program}{t:Nat}{info:TypeInfo}(h:P.info? t=Zz info)(w:World):(sizeOf t).run P w = .ok info.size w:=by
 simp[sizeOf,typeInfo,h]
theorem gV{P:Program}{t:Nat}{info:TypeInfo}{z:Value}(h:P.info? t=Zz info)(hz:info.zero=Zz z)(w:World):(zeroValue t).run P w = .ok z w:=by
 simp[zeroValue,typeInfo,h,hz]
theorem ME{k:IntKind}(hk:k ≠ .u8)(n:Int):mP k n = .int k n:=by cases k<;>first | rfl | exact absurd rfl hk
theorem fS{w:World}{p:bj}{k:IntKind}{n:Int}(h:k = .u8->0<=n/\n<256):bG w p (.int k n) (mP k n):=by
 by_cases hk:k = .u8
 ·subst hk;obtain⟨h0,h1⟩:=h rfl;have e:(Value.int .u8 n)=iU (UInt8.ofNat n.toNat):=by
   unfold iU;congr 1;rw[UInt8.toNat_ofNat'];omega
  rw[e];exact .u8
 ·rw[ME hk];exact .int hk
theorem wrap_u8(n:Int):0<=IntKind.u8.wrap n/\IntKind.u8.wrap n<256:=by
 unfold IntKind.wrap;simp[IntKind.bits,IntKind.signed];omega
theorem zE{w:World}{p:bj}{v:Value}{a:AV}(h:Dk v=Zz a):bG w p v a:=by
 unfold Dk at h;split at h
 ·cases h;exact .bool
 ·rename_i k n;split at h
  ·cases hc:(Zw (0<=n)&&Zw (n<256)) with
   | false=>simp[hc] at h
   | true =>
    rw[hc] at h;have h':AV.u8 (UInt8.ofNat n.toNat)=a:=by simpa using h
    subst h';simp at hc;exact fS (k := .u8) fun _=>hc
  ·rename_i hk;cases h;exact .int fun e=>hk e
 ·cases h;exact .str rfl
 ·cases h;exact .cJ
 ·cases h;exact .lN
 ·cases h;exact .Dh
 ·cases h;exact .vJ
 ·cases h
theorem fc{w:World}{p:bj}:∀ {vs:List Value} {as:List AV},ni vs=Zz as->aU (bG w p) vs as
 | [],as,h=>by simp[ni] at h;subst h;exact .nil
 | v::r,as,h=>by
  simp only[ni] at h;split at h
  ·rename_i a l h1 h2;cases h;exact .cons (zE h1) (fc h2)
  ·cases h
section
variable {w:World} {p:bj} {g:Nat->Value} {u:Nat->Prop}
theorem Ka{v:Value}{a:AV}(h:MN v=Zz a):bf w p g u v a:=by
 unfold MN at h;split at h
 ·rename_i cs;cases hc:ni cs.toList with
  | none=>simp[hc] at h
  | some l =>
   simp[hc] at h;subst h;exact .inr (.inl (.inr ⟨cs,l,rfl,rfl,(fc hc).imp fun _ _ => .kq⟩))
 ·exact .inr (.inl (.inl (.kq (zE h))))
theorem bG.re{v:Value}{a:AV}(h:bG w p v a):v.cells = #[v]/\v.oneCell'=Zn/\a.cells=[a]/\a.dk=Zn:=by
 cases h<;>simp[Value.cells,Value.oneCell',AV.cells,AV.dk,iU]
theorem cm.re{v:Value}{a:AV}(h:cm w p g u v a):v.cells = #[v]/\v.oneCell'=Zn/\a.cells=[a]/\a.dk=Zn:=by
 cases h with
 | kq h=>exact h.re
 | ptr=>simp[Value.cells,Value.oneCell',AV.cells,AV.dk]
 | jc=>simp[Value.cells,Value.oneCell',AV.cells,AV.dk]
 | row hu hs=>obtain⟨a,l,c,e⟩:=hs;rw[e];simp[Value.cells,Value.oneCell',AV.cells,AV.dk]
 | mp=>simp[Value.cells,Value.oneCell',AV.cells,AV.dk]
 | bz hu hs=>obtain⟨a,l,c,e⟩:=hs;rw[e];simp[Value.cells,Value.oneCell',AV.cells,AV.dk]
 | bA=>simp[Value.cells,Value.oneCell',AV.cells,AV.dk]
 | pE=>simp[Value.cells,Value.oneCell',AV.cells,AV.dk]
 | pre=>simp[Value.cells,Value.oneCell',AV.cells,AV.dk]
 | DW=>simp[Value.cells,Value.oneCell',AV.cells,AV.dk]
 | AB=>simp[Value.cells,Value.oneCell',AV.cells,AV.dk]
theorem bf.cells{v:Value}{a:AV}(h:bf w p g u v a)(hc:a.cells.all AV.dk=Zn):aU (cm w p g u) v.cells.toList a.cells:=by
 rcases h with rfl | (h | ⟨cF,cs,rfl,rfl,h⟩) | ⟨cF,cs,rfl,rfl,h⟩
 ·simp[AV.cells,AV.dk] at hc
 ·rw[h.re.1,h.re.2.2.1];exact .cons h .nil
 ·exact h
 ·simp[AV.cells,AV.dk] at hc
theorem aU.one{vs:List Value}{cs:List AV}(h:aU (cm w p g u) vs cs):∀ v∈vs,v.oneCell'=Zn:=by
 intro v hv;obtain⟨i,hi⟩:=List.getElem?_of_mem hv;have eY:i<cs.length:=by rw[<-h.len];exact(Zq.1 hi).1
 exact(h.each i v _ hi (Zb eY)).re.2.1
theorem aU.R4{vs:List Value}{cs:List AV}(h:aU (bG w p) vs cs):∀ v∈vs,v.oneCell'=Zn:=by
 intro v hv;obtain⟨i,hi⟩:=List.getElem?_of_mem hv;have eY:i<cs.length:=by rw[<-h.len];exact(Zq.1 hi).1
 exact(h.each i v _ hi (Zb eY)).re.2.1
theorem bf.int{v:Value}{k:IntKind}{n:Int}(h:bf w p g u v (.int k n)):v = .int k n/\k ≠ .u8:=by
 rcases h with h | (h | ⟨cF,cs,_,h,_⟩) | ⟨cF,cs,_,h,_⟩<;>first | cases h
 rename_i h;cases h;exact⟨rfl,by assumption⟩
theorem bf.u8{v:Value}{b:UInt8}(h:bf w p g u v (.u8 b)):v=iU b:=by
 rcases h with h | (h | ⟨cF,cs,_,h,_⟩) | ⟨cF,cs,_,h,_⟩<;>first | cases h
 rename_i h;cases h;rfl
theorem bf.bool{v:Value}{b:Bool}(h:bf w p g u v (.bool b)):v = .bool b:=by
 rcases h with h | (h | ⟨cF,cs,_,h,_⟩) | ⟨cF,cs,_,h,_⟩<;>first | cases h
 rename_i h;cases h;rfl
theorem bf.str{v:Value}{l:List UInt8}(h:bf w p g u v (.str l)):∃ s:ByteArray,v = .string s/\s.data.toList=l:=by
 rcases h with h | (h | ⟨cF,cs,_,h,_⟩) | ⟨cF,cs,_,h,_⟩<;>first | cases h
 rename_i h;cases h;exact⟨_,rfl,by assumption⟩
theorem bf.bs{v:Value}{l:List UInt8}(h:bf w p g u v (.bs l)):bG w p v (.bs l):=by
 rcases h with h | (h | ⟨cF,cs,_,h,_⟩) | ⟨cF,cs,_,h,_⟩<;>first | cases h
 assumption
theorem bf.sl{v:Value}{z:Nat}{l:List AV}(h:bf w p g u v (.sl z l)):bG w p v (.sl z l):=by
 rcases h with h | (h | ⟨cF,cs,_,h,_⟩) | ⟨cF,cs,_,h,_⟩<;>first | cases h
 assumption
theorem bf.cJ{v:Value}(h:bf w p g u v .cJ):∃ a,v = .slice a 0 0:=by
 rcases h with h | (h | ⟨cF,cs,_,h,_⟩) | ⟨cF,cs,_,h,_⟩<;>first | cases h
 rename_i h;cases h;exact⟨_,rfl⟩
theorem bf.row{v:Value}{k:Nat}(h:bf w p g u v (.row k)):u k/\v=g k/\∃ a l c,g k = .slice a l c:=by
 rcases h with h | (h | ⟨cF,cs,_,h,_⟩) | ⟨cF,cs,_,h,_⟩<;>first | cases h
 ·rename_i h;cases h
 ·exact⟨by assumption,rfl,by assumption⟩
theorem bf.ptr{v:Value}{k off:Nat}(h:bf w p g u v (.ptr k off)):u k/\∃ β,g k = .pointer (Zz ⟨β,0,none⟩)/\v = .pointer (Zz ⟨β,off,none⟩):=by
 rcases h with h | (h | ⟨cF,cs,_,h,_⟩) | ⟨cF,cs,_,h,_⟩<;>first | cases h
 ·rename_i h;cases h
 ·exact⟨by assumption,_,by assumption,rfl⟩
theorem bf.jc{v:Value}{k i sz off:Nat}(h:bf w p g u v (.jc k i sz off)):u k/\∃ β,bC (g k)=Zz β/\v = .pointer (Zz ⟨β,i*sz+off,none⟩):=by
 rcases h with h | (h | ⟨cF,cs,_,h,_⟩) | ⟨cF,cs,_,h,_⟩<;>first | cases h
 ·rename_i h;cases h
 ·exact⟨by assumption,_,by assumption,rfl⟩
theorem bf.bz{v:Value}{k e sz:Nat}(h:bf w p g u v (.bz k e sz)):u k/\v=g k/\∃ a l c,g k = .slice a l c:=by
 rcases h with h | (h | ⟨cF,cs,_,h,_⟩) | ⟨cF,cs,_,h,_⟩<;>first | cases h
 ·rename_i h;cases h
 ·exact⟨by assumption,rfl,by assumption⟩
theorem bf.mp{v:Value}{k:Nat}(h:bf w p g u v (.mp k)):u k/\∃ β,g k = .map (Zz β)/\v = .map (Zz β):=by
 rcases h with h | (h | ⟨cF,cs,_,h,_⟩) | ⟨cF,cs,_,h,_⟩<;>first | cases h
 ·rename_i h;cases h
 ·exact⟨by assumption,_,by assumption,rfl⟩
theorem bf.jg{v:Value}{cs:List AV}(h:bf w p g u v (.jg cs)):bG w p v (.jg cs):=by
 rcases h with h | (h | ⟨cF,cs,_,h,_⟩) | ⟨cF,cs,_,h,_⟩<;>first | cases h
 assumption
theorem bf.pE{v:Value}{k off:Nat}(h:bf w p g u v (.pE k off)):u k/\∃ β j b,g k = .pointer (Zz ⟨b,0,none⟩)/\v = .pointer (Zz ⟨β,j,none⟩)/\w.cell? ⟨β,j,none⟩=Zz (.pointer (Zz ⟨b,off,none⟩)):=by
 rcases h with h | (h | ⟨cF,cs,_,h,_⟩) | ⟨cF,cs,_,h,_⟩<;>first | cases h
 ·rename_i h;cases h
 ·rename_i hp hu hg hc;exact⟨by assumption,_,_,_,by assumption,rfl,by assumption⟩
theorem bf.bA{v:Value}{k:Nat}{gB:List Nat}(h:bf w p g u v (.bA k gB)):u k/\∃ β b cap,g k = .pointer (Zz ⟨b,0,none⟩)/\v = .slice (Zz ⟨β,0,none⟩) gB.length cap/\∀ (j off:Nat),gB[j]? = Zz off->j<p β/\w.cell? ⟨β,j,none⟩=Zz (.pointer (Zz ⟨b,off,none⟩)):=by
 rcases h with h | (h | ⟨cF,cs,_,h,_⟩) | ⟨cF,cs,_,h,_⟩<;>first | cases h
 ·rename_i h;cases h
 ·exact⟨by assumption,_,_,_,by assumption,rfl,by assumption⟩
theorem bf.fn{v:Value}{f:Nat}(h:bf w p g u v (.fn f)):v = .func (.func f) #[] #[]:=by
 rcases h with h | (h | ⟨cF,cs,_,h,_⟩) | ⟨cF,cs,_,h,_⟩<;>first | cases h
 rename_i h;cases h;rfl
theorem bf.AB{v:Value}{f:Nat}{fs cs:List (Nat×Nat)}(h:bf w p g u v (.AB f fs cs)):∃ vs us:Array Value,v = .func (.func f) vs us/\aU (bf w p g u) vs.toList (ke fs)/\aU (bf w p g u) us.toList (ke cs):=by
 have key:∀ {vs:Array Value} {fs:List (Nat×Nat)},vs.size=fs.length->(∀ (j k off:Nat),fs[j]? = Zz (k,off)->u k/\∃ β,g k = .pointer (Zz ⟨β,0,none⟩)/\vs[j]? = Zz (.pointer (Zz ⟨β,off,none⟩)))->aU (bf w p g u) vs.toList (ke fs):=by
  intro vs fs h1 h2;refine⟨by simp[ke,h1],fun i v c hv hc=> ?_⟩;simp only[ke,List.getElem?_map,Option.map_eq_some_iff] at hc;obtain⟨⟨k,off⟩,hj,rfl⟩:=hc;obtain⟨hu,β,hg,hx⟩:=h2 i k off hj;have:v = .pointer (Zz ⟨β,off,none⟩):=by
   have y0:vs[i]? = Zz v:=by simpa using hv
   rw[hx] at y0;cases y0;rfl
  subst this;exact .inr (.inl (.inl (.ptr hu hg)))
 rcases h with h | (h | ⟨cF,cs,_,h,_⟩) | ⟨cF,cs,_,h,_⟩
 ·cases h
 ·cases h with
  | kq h=>cases h
  | AB h1 h2 hf hc=>exact⟨_,_,rfl,key h1 hf,key h2 hc⟩
 ·cases h
 ·cases h
theorem bf.pre{v:Value}{k n:Nat}(h:bf w p g u v (.pre k n)):u k/\∃ β l cap,g k = .slice (Zz ⟨β,0,none⟩) l cap/\n<=l/\v = .slice (Zz ⟨β,0,none⟩) n cap:=by
 rcases h with h | (h | ⟨cF,cs,_,h,_⟩) | ⟨cF,cs,_,h,_⟩<;>first | cases h
 ·rename_i h;cases h
 ·exact⟨by assumption,_,_,_,by assumption,by assumption,rfl⟩
theorem bf.DW{v:Value}{k m:Nat}(h:bf w p g u v (.DW k m)):u k/\∃ β l cap a,g k = .slice (Zz ⟨β,0,none⟩) l cap/\m<=l/\(m=l\/a=Zz ⟨β,m,none⟩)/\v = .slice a (l-m) (cap-m):=by
 rcases h with h | (h | ⟨cF,cs,_,h,_⟩) | ⟨cF,cs,_,h,_⟩<;>first | cases h
 ·rename_i h;cases h
 ·exact⟨by assumption,_,_,_,_,by assumption,by assumption,by assumption,rfl⟩
theorem bf.agg{v:Value}{cs:List AV}(h:bf w p g u v (.agg cs)):∃ cF,v = .agg cF/\aU (cm w p g u) cF.toList cs:=by
 rcases h with h | (h | ⟨cF,iw,rfl,h,hc⟩) | ⟨cF,cs,_,h,_⟩
 ·cases h
 ·cases h with | kq h=>cases h
 ·cases h;exact⟨cF,rfl,hc⟩
 ·cases h
theorem bf.aQ{v:Value}{as:List AV}(h:bf w p g u v (.aQ as)):∃ cF,v = .tuple cF/\aU (uK w p g u) cF.toList as:=by
 rcases h with h | (h | ⟨cF,iw,rfl,h,hc⟩) | ⟨cF,WR,rfl,h,hc⟩
 ·cases h
 ·cases h with | kq h=>cases h
 ·cases h
 ·cases h;exact⟨cF,rfl,hc⟩
theorem bG.v{v:Value}{a:AV}(h:bG w p v a):bf w p g u v a := .inr (.inl (.inl (.kq h)))
theorem cm.v{v:Value}{a:AV}(h:cm w p g u v a):bf w p g u v a := .inr (.inl (.inl h))
end
end Go.Abs
/- Operations on memory: new blocks, loads, stores. -/
namespace Go.Abs
section
variable {P:Program} {B:Nat} {M:Nat->Prop} {w0:World} {p0:bj} {w:World} {p:bj} {g:Nat->Value}
def Good(B:Nat)(M:Nat->Prop)(w0:World)(p0:bj)(w:World)(p:bj)(g:Nat->Value)(st:Nat->br)(v:AV)(st':Nat->br)(r:Result Value):Prop :=
 ∃ v' w' p' g',r = .ok v' w'/\bM B M w0 p0 w' p' g' st'/\cu w p g (used st) w' p' g' (used st')/\bf w' p' g' (used st') v' v
theorem Good.same{st:Nat->br}{v:AV}{v':Value}{r:Result Value}(h:bM B M w0 p0 w p g st)(hr:r = .ok v' w)(hv:bf w p g (used st) v' v):Good B M w0 p0 w p g st v st r :=
 ⟨v',w,p,g,hr,h,cu.refl,hv⟩
theorem dh(w:World)(o:Obj){β:Nat}(h:β<w.heap.size):(w.alloc o).heap[β]? = w.heap[β]? := Go.RowKit.Below.heap_alloc w o β h
theorem dW(w:World)(o:Obj):(w.alloc o).heap[w.heap.size]? = Zz o:=heap_alloc_new w o
theorem bM.j_{st:Nat->br}(h:bM B M w0 p0 w p g st)(o:Obj):∀ β,(w.alloc o).heap.size<=β->p β=0:=fun β hβ=>h.ly β (by simp at hβ;omega)
theorem tz{st:Nat->br}{t:Nat}(h:bM B M w0 p0 w p g st)(ht:st t = .free)(c:Array Value)(e:TypeId){cs:List AV}(hc:aU (cm w p g (used st)) c.toList cs) :
  Good B M w0 p0 w p g st (.ptr t 0) (cl st t (.cells cs)) (.ok (.pointer (Zz ⟨w.heap.size,0,none⟩)) (w.alloc (.cells c e))):=by
 obtain⟨hs,hm⟩:=h.add (w':=w.alloc (.cells c e)) (p':=p) (t:=t) (b := .cells cs) (v := .pointer (Zz ⟨w.heap.size,0,none⟩)) ht (by simp) rfl rfl rfl (by simp)
  (fun β hβ=>⟨dh w _ hβ,rfl⟩) (fun _=>Zd _) (h.j_ _) (fun β hβ=>by simp[bC] at hβ;omega)
  (fun hm=>⟨w.heap.size,c,e,by rw[aP],.inr h.size,dW w _,hc.imp fun _ _=>hm.A_,h.ly _ (Zd _)⟩)
 refine⟨_,_,p,_,rfl,hs,hm,cm.v (.ptr ?_ (by rw[aP]))⟩;unfold used;rw[aP];simp
theorem CU{st:Nat->br}{t:Nat}(h:bM B M w0 p0 w p g st)(ht:st t = .free)(c:Array Value)(e:TypeId){l:List UInt8}(hc:c.toList=l.map iU) :
  Good B M w0 p0 w p g st (.ptr t 0) (cl st t (.h_ l Zv)) (.ok (.pointer (Zz ⟨w.heap.size,0,none⟩)) (w.alloc (.cells c e))):=by
 have hp:p w.heap.size=0:=h.ly _ (Zd _);obtain⟨hs,hm⟩:=h.add (w':=w.alloc (.cells c e)) (p':=p) (t:=t) (b := .h_ l Zv) (v := .pointer (Zz ⟨w.heap.size,0,none⟩)) ht (by simp) rfl rfl rfl (by simp)
  (fun β hβ=>⟨dh w _ hβ,rfl⟩) (fun _=>Zd _) (h.j_ _) (fun β hβ=>by simp[bC] at hβ;omega)
  (fun hm=>⟨w.heap.size,c,e,by rw[aP],h.size,dW w _,hc,by omega,fun _=>hp⟩)
 refine⟨_,_,p,_,rfl,hs,hm,cm.v (.ptr ?_ (by rw[aP]))⟩;unfold used;rw[aP];simp
theorem yl:∀ {as:List AV} {l:List UInt8},OA as=Zz l->as=l.map .u8
 | [],l,h=>by simp[OA] at h;subst h;rfl
 | a::r,l,h=>by
  cases a<;>simp[OA] at h;obtain⟨l',h',rfl⟩:=h;rw[yl h'];rfl
theorem uW{R:Value->AV->Prop}(hR:∀ v b,R v (.u8 b)->v=iU b):∀ {vs:List Value} {l:List UInt8},aU R vs (l.map .u8)->vs=l.map iU
 | vs,[],h=>h.iN
 | vs,b::l,h=>by
  obtain⟨v,OQ,rfl,h1,h2⟩:=h.gF;rw[hR v b h1,uW hR h2];rfl
theorem Dz{v:Value}{b:UInt8}(h:bG w p v (.u8 b)):v=iU b:=by cases h;rfl
theorem Kt{t:Nat}{info:TypeInfo}{z:Value}(hi:P.info? t=Zz info)(hz:info.zero=Zz z) :
  (Instr.alloc t Zn (.tuple #[])).run P w = .ok (.pointer (Zz ⟨w.heap.size,0,none⟩)) (w.alloc (.cells z.cells t)):=by
 unfold Instr.alloc;simp[gV hi hz,newVar,newRow]
theorem Kw{α:Type}{fr:Fr}{e t:Nat}{i:TI}(hi:d_ P e=Zz i)(h:bM B M w0 p0 w p g fr.st){k:j5 α}{r:α}
  (hk:(match i.kind with | .cF _ _ Zn=>(OA i.zero).bind fun l=>gE fr t (.h_ l Zv) (.ptr t 0) k | _=>gE fr t (.cells i.zero) (.ptr t 0) k)=Zz r) :
  ∃ v st' fp,k v st' fp=Zz r/\Good B M w0 p0 w p g fr.st v st' ((Instr.alloc e Zn (.tuple #[])).run P w):=by
 obtain⟨info,z,h1,h2,h3,h4,h5,h6,h7,h8,h9,_⟩:=a_ hi;rw[Kt h1 h4];have hz:=fc (w:=w) (p:=p) h5;have key:gE fr t (.cells i.zero) (.ptr t 0) k=Zz r->∃ v st' fp,k v st' fp=Zz r/\Good B M w0 p0 w p g fr.st v st' (.ok (.pointer (Zz ⟨w.heap.size,0,none⟩)) (w.alloc (.cells z.cells e))):=by
  intro hk;unfold gE at hk;split at hk
  ·rename_i ht;exact⟨_,_,_,hk,tz h ht _ _ (hz.imp fun _ _ => .kq)⟩
  ·cases hk
 split at hk
 ·cases hl:OA i.zero with
  | none=>simp[hl] at hk
  | some l =>
   simp only[hl,Option.bind_some,gE] at hk;split at hk
   ·rename_i ht;refine⟨_,_,_,hk,CU h ht _ _ ?_⟩;rw[yl hl] at hz;exact uW (fun v b=>Dz) hz
   ·cases hk
 ·exact key hk
theorem PN{α:Type}{fr:Fr}{e t:Nat}{i:TI}{x:Value}{a:AV}(h:bM B M w0 p0 w p g fr.st)(hx:bf w p g (used fr.st) x a){k:j5 α}{r:α}
  (hk:(bif a.cells.length==i.size&&a.cells.all AV.dk then gE fr t (.cells a.cells) (.ptr t 0) k else none)=Zz r) :
  ∃ v st' fp,k v st' fp=Zz r/\Good B M w0 p0 w p g fr.st v st' ((Instr.box e x).run P w):=by
 cases hc:(a.cells.length==i.size&&a.cells.all AV.dk) with
 | false=>simp[hc] at hk
 | true =>
  simp only[hc,Qa5,gE] at hk;simp only[Zp] at hc;split at hk
  ·rename_i ht;refine⟨_,_,_,hk,?_⟩;have:(Instr.box e x).run P w = .ok (.pointer (Zz ⟨w.heap.size,0,none⟩)) (w.alloc (.cells x.cells e)):=by
    unfold Instr.box;simp[newVar,newRow]
   rw[this];exact tz h ht _ _ (hx.cells hc.2)
  ·cases hk
theorem dG(β off j:Nat):(⟨β,off,none⟩:Addr).add j=⟨β,off+j,none⟩:=by unfold Addr.add;split<;>simp_all
theorem sg{t:Nat}{i:TI}(hi:d_ P t=Zz i){β off:Nat}{vs:List Value}(hl:vs.length=i.size\/(cI i.kind=Zv/\0<vs.length))
  (hc:∀ j v,vs[j]? = Zz v->w.cell? ⟨β,off+j,none⟩=Zz v) :
  (loadVar t ⟨β,off,none⟩).run P w = .ok (if cI i.kind then .agg vs.toArray else vs.headD undef) w\/vs=[]:=by
 obtain⟨info,z,h1,h2,h3,h4,h5,h6,h7,h8,h9,_⟩:=a_ hi;cases hk:cI i.kind with
 | true =>
  left;have qw:vs.length=i.size:=by rcases hl with hl | hl;exact hl;rw[hk] at hl;cases hl.1
  have TV:=run_loadCells_list (P:=P) w ⟨β,off,none⟩ vs (fun j v hj=>by rw[dG];exact hc j v hj);rw[qw,<-h2] at TV;simp[loadVar,nC h8,hk,run_sizeOf h1,TV]
 | false =>
  cases vs with
  | nil=>exact .inr rfl
  | cons v vs =>
   left;have:=hc 0 v rfl;simp[loadVar,nC h8,hk];rw[show off=off+0 from rfl,this]
def qV(w:World)(p:bj)(g:Nat->Value)(st:Nat->br)(v:AV)(r:Result Value):Prop:=∃ v',r = .ok v' w/\bf w p g (used st) v' v
theorem qV.same{st:Nat->br}{v:AV}{v':Value}{r:Result Value}(hr:r = .ok v' w)(hv:bf w p g (used st) v' v):qV w p g st v r:=⟨v',hr,hv⟩
theorem qV.kW{st:Nat->br}{v:AV}{r:Result Value}(h:bM B M w0 p0 w p g st)(hg:qV w p g st v r):Good B M w0 p0 w p g st v st r:=by
 obtain⟨v',hr,hv⟩:=hg;exact Good.same h hr hv
theorem mC{α:Type}{st:Nat->br}{t:Nat}{i:TI}(hi:d_ P t=Zz i)(h:bM B M w0 p0 w p g st){β off:Nat}{vs:List Value}{cs:List AV}(hcs:aU (cm w p g (used st)) vs cs)
  (hc:∀ j v,vs[j]? = Zz v->w.cell? ⟨β,off+j,none⟩=Zz v) {k:AV->Option α} {r:α} (hk:loadCells i cs k=Zz r) :
  ∃ v,k v=Zz r/\qV w p g st v ((loadVar t ⟨β,off,none⟩).run P w):=by
 unfold loadCells at hk;cases hb:Zh i.size cs.length with
 | false=>simp[hb] at hk
 | true =>
  simp only[hb,Qa5] at hk;have hle:i.size<=cs.length:=Zu hb;split at hk
  ·rename_i qM;refine⟨_,hk,?_⟩;have h1:=sg (P:=P) (w:=w) hi (β:=β) (off:=off) (vs:=vs.take i.size) (.inl (by simp[hcs.len];omega)) (fun j v hj=>by
    rw[Zj] at hj;split at hj
    ·exact hc j v hj
    ·cases hj)
   have Q9:(loadVar t ⟨β,off,none⟩).run P w = .ok (.agg (vs.take i.size).toArray) w:=by
    rcases h1 with h1 | h1
    ·rw[h1,qM];rfl
    ·obtain⟨info,z,a1,a2,a3,a4,a5,a6,a7,a8,a9,_⟩:=a_ hi;have hz:i.size=0:=by
      have:=Qb3 List.length h1;rw[List.length_take,hcs.len,List.length_nil] at this;omega
     have TV:=run_loadCells_list (P:=P) w ⟨β,off,none⟩ [] (fun j v hj=>by simp at hj);simp only[List.length_nil] at TV;rw[hz] at a2;simp[loadVar,nC a8,qM,run_sizeOf a1,a2,TV,hz]
   exact qV.same Q9 (.inr (.inl (.inr ⟨_,_,rfl,rfl,by simpa using hcs.take i.size⟩)))
  ·rename_i qM;cases cs with
   | nil=>simp at hk
   | cons c cs =>
    obtain⟨v,OQ,rfl,hv,_⟩:=hcs.gF;refine⟨_,hk,?_⟩;have h1:=sg (P:=P) (w:=w) hi (β:=β) (off:=off) (vs:=v::OQ) (.inr ⟨qM,by simp⟩) hc;rcases h1 with h1 | h1
    ·rw[qM] at h1;exact qV.same h1 (cm.v hv)
    ·cases h1
theorem Ei{R:Value->AV->Prop}{vs:List Value}{els:List AV}{sz:Nat}(h:aU R vs (els.flatMap AV.cells))(eQ:∀ x∈els,x.cells.length=sz){j:Nat}{x:AV}(hj:els[j]? = Zz x)(off:Nat) :
  aU R ((vs.drop (j*sz+off)).take (sz-off)) (x.cells.drop off):=by
 have hx:=eQ x (List.mem_of_getElem? hj);have JJ:j<els.length:=(Zq.1 hj).1;have hl:=h.len;rw[ic eQ] at hl;have yT:(j+1)*sz<=els.length*sz:=Zm sz JJ;rw[Yy] at yT;refine⟨?_,fun i v c hv hc=> ?_⟩
 ·rw[List.length_take,List.length_drop,List.length_drop,hx];omega
 ·rw[Zj] at hv;split at hv
  ·rw[Yx] at hv hc;have:=rB eQ hj hc;rw[Nat.add_assoc] at hv;exact h.each _ v c hv this
  ·cases hv
theorem sk{α:Type}{E:Env}(ez:∀ t i,E.ty t=Zz i->d_ P t=Zz i){fr:Fr}{t:Nat}{i:TI}(hi:d_ P t=Zz i)(h:bM B M w0 p0 w p g fr.st){x:Value}{a:AV}(hx:bf w p g (used fr.st) x a){k:j5 α}{r:α}(hk:jb E fr i a k=Zz r) :
  ∃ v fp,k v fr.st fp=Zz r/\qV w p g fr.st v ((Instr.loadAt t x).run P w):=by
 unfold jb at hk;split at hk
 ·rename_i b off;obtain⟨hu,β,hg,rfl⟩:=hx.ptr;have hb:=h.lK b;split at hk
  ·rename_i cs cW;rw[cW] at hb;obtain⟨β',c,e,h1,h2,h3,h4,h5⟩:=hb;have:β'=β:=by rw[h1] at hg;cases hg;rfl
   subst this;obtain⟨v,oT,OJ⟩:=mC (P:=P) hi h (β:=β') (off:=off) (h4.drop off) (fun j v hj=>by
    rw[eC h3];simpa using hj) hk
   exact⟨v,_,oT,by simpa [Instr.loadAt,Instr.sureAddr] using OJ⟩
  ·cases hk
 ·rename_i cs;have hr:=hx.jg;cases hr with
  | jg vs hcell kZ =>
   rename_i β off;obtain⟨v,oT,OJ⟩:=mC (P:=P) hi h (β:=β) (off:=off) (vs:=(List.range cs.length).map vs) (cs:=cs) ⟨by simp,fun j v c hv hc=>by
     have hj:j<cs.length:=(Zq.1 hc).1;simp[hj] at hv;subst hv;exact .kq (kZ j c hc)⟩ (fun j v hj=>by
     have GP:j<cs.length:=by have:=(Zq.1 hj).1;simpa using this
     simp[GP] at hj;subst hj;exact(hcell j _ (Zb GP)).2) hk
   exact⟨v,_,oT,by simpa [Instr.loadAt,Instr.sureAddr] using OJ⟩
 ·rename_i b off;obtain⟨hu,β,j,b',hg,rfl,hc⟩:=hx.pE;split at hk
  ·rename_i e eg;obtain⟨eQ,aX⟩:=aH hk;have Ue:=Zx eQ;refine⟨_,_,aX,?_⟩;have qM:cI i.kind=Zv:=by rw[eg];rfl
   have h1:=sg (P:=P) (w:=w) hi (β:=β) (off:=j) (vs:=[.pointer (Zz ⟨b',off,none⟩)]) (.inr ⟨qM,by simp⟩) (fun q v hq=>by
    cases q with
    | zero=>simp at hq;subst hq;simpa using hc
    | succ q=>simp at hq)
   rcases h1 with h1 | h1
   ·rw[qM] at h1;exact qV.same (by simpa [Instr.loadAt,Instr.sureAddr] using h1) (cm.v (.ptr hu hg))
   ·cases h1
  ·cases hk
 ·rename_i b j sz off;obtain⟨hu,β,hg,rfl⟩:=hx.jc;have hb:=h.lK b;have key:∀ (l:List UInt8) (c:Array Value) (e:TypeId) (n:Nat),w.heap[β]? = Zz (.cells c e (0,0))->(c.toList.take n=l.map iU)->az (Zk j l.length&&Zy off 0&&Zy sz 1 && !cI i.kind) (k (.u8 (l.getD j 0)) fr.st ⟨[b],[]⟩)=Zz r ->
    ∃ v fp,k v fr.st fp=Zz r/\qV w p g fr.st v ((Instr.loadAt t (.pointer (Zz ⟨β,j*sz+off,none⟩))).run P w):=by
   intro l c e n hh hc aX;obtain⟨dq,cD⟩:=aH aX;simp only[Zp,Bool.not_eq_true'] at dq;obtain⟨⟨⟨hj,ho⟩,hs⟩,qM⟩:=dq;have eY:j<l.length:=Zu hj;have Hi:=Zx ho;have YV:=Zx hs;subst Hi;subst YV;refine⟨_,_,cD,qV.same (v':=iU (l.getD j 0)) ?_ (bG.v .u8)⟩;have hcell:w.cell? ⟨β,j,none⟩=Zz (iU (l.getD j 0)):=by
    rw[eC hh];have h1:(l.map iU)[j]? = Zz (iU (l.getD j 0)):=by simp[eY]
    rw[<-hc,Zj] at h1;split at h1
    ·simpa using h1
    ·cases h1
   obtain⟨info,z,a1,a2,a3,a4,a5,a6,a7,a8,a9,_⟩:=a_ hi;simp[Instr.loadAt,Instr.sureAddr,loadVar,nC a8,qM,hcell]
  split at hk
  ·rename_i e l gC cW;rw[cW] at hb;obtain⟨⟨hlen,⟨hn,a,hv⟩ | ⟨β',cap,iV,hv,h0,hB,hh,sL,xq,hcs,fo⟩⟩,_⟩:=hb
   ·rw[hv] at hg;cases a<;>simp[bC] at hg
   ·rw[hv] at hg;have:β'=β:=by simp[bC] at hg;exact hg.2
    subst this;exact key l iV e _ hh fo hk
  ·rename_i l gC cW;rw[cW] at hb;obtain⟨β',c,e,h1,h2,h3,h4,h5⟩:=hb;rw[h1] at hg;have:β'=β:=by simp[bC] at hg;exact hg
   subst this;exact key l c e c.size h3 (by rw[List.take_of_length_le (by simp)];exact h4) hk
  ·rename_i e z l gC cW;rw[cW] at hb;split at hk
   ·rename_i ei g8;obtain⟨dq,aX⟩:=aH hk;simp only[Zp] at dq;have eY:j<l.length:=Zu dq.1;have hz:=Zx dq.2;subst hz;have cD:=iF aX;obtain⟨qy,eQ,vs,⟨hlen,⟨hn,a,hv⟩ | ⟨β',cap,iV,hv,h0,hB,hh,sL,xq,hcs,fo⟩⟩,c6,hp⟩:=hb
    ·omega
    ·rw[hv] at hg;have:β'=β:=by simp[bC] at hg;exact hg.2
     subst this;have rE:l[j]? = Zz (l.getD j .undef):=by simp[eY]
     have Pj:=Ei (c6.imp fun _ _ hh=>cm.kq (g:=g) (u:=used fr.st) hh) eQ rE off;obtain⟨v,oT,OJ⟩:=mC (P:=P) hi h (β:=β') (off:=j*z+off) Pj (fun q v hq=>by
      rw[Zj] at hq;split at hq
      ·rw[Yx,<-fo,Zj] at hq;split at hq
       ·rw[eC hh];simpa using hq
       ·cases hq
      ·cases hq) cD
     exact⟨v,_,oT,by simpa [Instr.loadAt,Instr.sureAddr] using OJ⟩
   ·cases hk
  ·rename_i e z l cW;rw[cW] at hb;split at hk
   ·rename_i ei g8;obtain⟨dq,aX⟩:=aH hk;simp only[Zp] at dq;have eY:j<l.length:=Zu dq.1;have hz:=Zx dq.2;subst hz;have cD:=iF aX;obtain⟨β',cap,hv,hB,qy,eQ,h0,sL,xq,hp,iV,vs,hh,hcs,hlen,fo,c6⟩:=hb
    ·rw[hv] at hg;have:β'=β:=by simp[bC] at hg;exact hg.2
     subst this;have rE:l[j]? = Zz (l.getD j .undef):=by simp[eY]
     have Pj:=Ei (c6.imp fun _ _ hh=>cm.kq (g:=g) (u:=used fr.st) hh) eQ rE off;obtain⟨v,oT,OJ⟩:=mC (P:=P) hi h (β:=β') (off:=j*z+off) Pj (fun q v hq=>by
      rw[Zj] at hq;split at hq
      ·rw[Yx,<-fo,Zj] at hq;split at hq
       ·rw[eC hh];simpa using hq
       ·cases hq
      ·cases hq) cD
     exact⟨v,_,oT,by simpa [Instr.loadAt,Instr.sureAddr] using OJ⟩
   ·cases hk
  ·cases hk
 ·cases hk
theorem HV{α:Type}{E:Env}(ez:∀ t i,E.ty t=Zz i->d_ P t=Zz i){fr:Fr}{t:Nat}{i:TI}(hi:d_ P t=Zz i)(h:bM B M w0 p0 w p g fr.st){x:Value}{a:AV}(hx:bf w p g (used fr.st) x a){k:j5 α}{r:α}(hk:jb E fr i a k=Zz r) :
  ∃ v fp,k v fr.st fp=Zz r/\Good B M w0 p0 w p g fr.st v fr.st ((Instr.loadAt t x).run P w):=by
 obtain⟨v,fp,h1,h2⟩:=sk ez hi h hx hk;exact⟨v,fp,h1,h2.kW h⟩
end
end Go.Abs
/- Operations on numbers, truth values and strings; stores. -/
namespace Go.Abs
section
variable {P:Program} {B:Nat} {M:Nat->Prop} {w0:World} {p0:bj} {w:World} {p:bj} {g:Nat->Value} {u:Nat->Prop}
theorem fQ{α:Type}{x y:Value}{a b:AV}(hx:bf w p g u x a)(hy:bf w p g u y b){k:IntKind->Int->Int->Option α}{r:α}(h:gD a b k=Zz r) :
  ∃ kd n m,x = .int kd n/\y = .int kd m/\k kd n m=Zz r/\(kd = .u8->(0<=n/\n<256)/\(0<=m/\m<256)):=by
 unfold gD at h;split at h
 ·rename_i k1 n k2 m;obtain⟨rfl,h1⟩:=hx.int;obtain⟨rfl,h2⟩:=hy.int;cases he:(k1==k2) with
  | false=>simp[he] at h
  | true =>
   simp[he] at h;have:k1=k2:=by simpa using he
   subst this;exact⟨k1,n,m,rfl,rfl,h,fun e=>absurd e h1⟩
 ·rename_i n m;have e1:=hx.u8;have e2:=hy.u8;subst e1;subst e2;refine⟨.u8,n.toNat,m.toNat,rfl,rfl,h,fun _=> ?_⟩;have:=n.toNat_lt;have:=m.toNat_lt
  omega
 ·cases h
theorem eJ(op:BinOp)(t:TypeId)(k:IntKind)(n m:Int)(h1:op ≠ .shl)(h2:op ≠ .shr) :
  binOp op t (.int k n) (.int k m)=(match op with
  | .add | .sub | .mul=>Op.intArith op k n m
  | .quo | .rem=>Op.intDiv op k n m
  | .and | .or | .xor | .andNot=>Op.intBits op k n m
  | _=>Op.intCmp op n m):=by
 cases op<;>first | exact absurd rfl h1 | exact absurd rfl h2 | simp[binOp]
theorem I8{n m:Int}(hn:0<=n/\n<256):0<=n.tmod m/\n.tmod m<256:=by
 have h1:0<=n.tmod m:=Int.tmod_nonneg m hn.1;have h2:=Int.natAbs_tmod n m;have h3:=Nat.mod_le n.natAbs m.natAbs;omega
theorem sV{y:Value}{b:AV}(hy:bf w p g u y b){m:Int}(h:pI b=Zz m):∃ k,y = .int k m:=by
 unfold pI at h;split at h
 ·cases h;exact⟨_,hy.int.1⟩
 ·cases h;exact⟨_,hy.u8⟩
 ·cases h
theorem ij{y:Value}{b:AV}(hy:bf w p g u y b){m:Int}(h:idx b=Zz m):∃ k,y = .int k m:=by
 unfold idx at h;split at h
 ·cases h;exact⟨_,hy.int.1⟩
 ·cases h;exact⟨_,hy.u8⟩
 ·cases h
theorem Pc{n:Int}{j:Nat}(hn:0<=n/\n<256):0<=n.fdiv (2 ^ j)/\n.fdiv (2 ^ j)<256:=by
 have hp:(0:Int)<2 ^ j:=Int.pow_pos (by decide);rw[Int.fdiv_eq_ediv_of_nonneg _ (Int.le_of_lt hp)];have h1:=Int.ediv_nonneg hn.1 (Int.le_of_lt hp);have h2:=Int.ediv_le_self (2 ^ j) hn.1;omega
theorem pV{x y:Value}{a b:AV}(hx:bf w p g u x a)(hy:bf w p g u y b){c:Bool}(h:kN a b=Zz c) :
  (∃ k n m,x = .int k n/\y = .int k m/\c=(n==m))\/(∃ s t,x = .bool s/\y = .bool t/\c=(s==t))\/(∃ s t:ByteArray,x = .string s/\y = .string t/\c=(s.data.toList==t.data.toList)):=by
 unfold kN at h;split at h
 ·rename_i k1 n k2 m;obtain⟨rfl,_⟩:=hx.int;obtain⟨rfl,_⟩:=hy.int;cases he:(k1==k2) with
  | false=>simp[he] at h
  | true =>
   simp[he] at h;have:k1=k2:=by simpa using he
   subst this;exact .inl ⟨_,_,_,rfl,rfl,h.symm⟩
 ·rename_i n m;have e1:=hx.u8;have e2:=hy.u8;subst e1;subst e2;cases h;refine .inl ⟨_,_,_,rfl,rfl,?_⟩;rw[Bool.eq_iff_iff];simp;constructor
  ·rintro rfl;rfl
  ·intro h;exact UInt8.toNat.inj (by omega)
 ·have e1:=hx.bool;have e2:=hy.bool;subst e1;subst e2;cases h;exact .inr (.inl ⟨_,_,rfl,rfl,rfl⟩)
 ·obtain⟨s,rfl,hs⟩:=hx.str;obtain⟨t,rfl,ht⟩:=hy.str;cases h;exact .inr (.inr ⟨s,t,rfl,rfl,by rw[hs,ht]⟩)
 ·cases h
theorem xF{t:TypeId}{x y:Value}{a b:AV}(hx:bf w p g u x a)(hy:bf w p g u y b){c:Bool}(h:kN a b=Zz c)(hb:∀ s r,x = .bool s->y = .bool r->P.underlying t=Zz .bool) :
  (binOp .eql t x y).run P w = .ok (.bool c) w/\(binOp .neq t x y).run P w = .ok (.bool !c) w:=by
 rcases pV hx hy h with⟨k,n,m,rfl,rfl,rfl⟩ | ⟨s,r,rfl,rfl,rfl⟩ | ⟨s,r,rfl,rfl,rfl⟩
 ·constructor<;>simp[binOp,Op.intCmp,bne]
 ·have:=hb s r rfl rfl;have he:∀ d,(Op.equalIn (d+1) t (.bool s) (.bool r)).run P w = .ok (s==r) w:=fun d=>by simp[Op.equalIn,run_underlying this]
  constructor<;>(simp only[binOp];simp[Op.equal,Op.maxDepth,he 9999])
 ·constructor<;>simp[binOp,Op.stringOp,Lib.toList_data]
theorem CP{op:BinOp}{t:TypeId}{x y:Operand}{v v':Value}(h:∀ cF,v ≠ .agg cF)(h':v ≠ .nilIface):(eqGuard op t x y v v').run P w = .ok () w:=by
 cases op<;>first | rfl | (cases v<;>first | rfl | exact absurd rfl (h _) | exact absurd rfl h')
theorem FK{v:Value}{a:AV}(h:bf w p g u v a)(hc:a.dk=Zn):(∀ cF,v ≠ .agg cF)/\v ≠ .nilIface:=by
 rcases h with rfl | (h | ⟨cF,cs,rfl,rfl,h⟩) | ⟨cF,cs,rfl,rfl,h⟩
 ·simp[AV.dk] at hc
 ·cases h with
  | kq h=>cases h<;>simp[iU]
  | ptr=>simp
  | jc=>simp
  | row hu hs=>obtain⟨a,l,c,e⟩:=hs;rw[e];simp
  | mp=>simp
  | bz hu hs=>obtain⟨a,l,c,e⟩:=hs;rw[e];simp
  | bA=>simp
  | pE=>simp
  | pre=>simp
  | DW=>simp
  | AB=>simp
 ·simp[AV.dk] at hc
 ·simp[AV.dk] at hc
theorem PM{op:BinOp}{t:TypeId}{x y:Value}{a b v:AV}(hx:bf w p g u x a)(hy:bf w p g u y b)(h:lQ op a b=Zz v)(ha:a.dk=Zn)
  (hb:∀ s r,x = .bool s->y = .bool r->P.underlying t=Zz .bool):∃ v',(binOp op t x y).run P w = .ok v' w/\bG w p v' v:=by
 unfold lQ at h;split at h
 ·-- shl
  split at h
  ·rename_i k n m hm;obtain⟨rfl,hk⟩:=hx.int;obtain⟨k',rfl⟩:=sV hy hm;cases h0:Zw (0<=m) with
   | false=>simp[h0,az] at h
   | true =>
    simp[h0,az] at h;subst h;have:¬ m<0:=by simp at h0;omega
    exact⟨_,by simp[binOp,Op.shift,this],.int hk⟩
  ·rename_i n m hm;have e:=hx.u8;subst e;obtain⟨k',rfl⟩:=sV hy hm;cases h0:Zw (0<=m) with
   | false=>simp[h0,az] at h
   | true =>
    simp[h0,az] at h;subst h;have:¬ m<0:=by simp at h0;omega
    refine⟨_,?_,fS fun _=>wrap_u8 _⟩;simp[iU,binOp,Op.shift,this,IntKind.bits]
  ·cases h
 ·-- shr
  split at h
  ·rename_i k n m hm;obtain⟨rfl,hk⟩:=hx.int;obtain⟨k',rfl⟩:=sV hy hm;cases h0:Zw (0<=m) with
   | false=>simp[h0,az] at h
   | true =>
    simp[h0,az] at h;subst h;have:¬ m<0:=by simp at h0;omega
    exact⟨_,by simp[binOp,Op.shift,this],.int hk⟩
  ·rename_i n m hm;have e:=hx.u8;subst e;obtain⟨k',rfl⟩:=sV hy hm;cases h0:Zw (0<=m) with
   | false=>simp[h0,az] at h
   | true =>
    simp[h0,az] at h;subst h;have:¬ m<0:=by simp at h0;omega
    have hn:=n.toNat_lt;refine⟨_,?_,fS fun _=>Pc ⟨by omega,by omega⟩⟩;simp[iU,binOp,Op.shift,this,IntKind.bits]
  ·cases h
 ·-- add
  split at h
  ·rename_i s s';obtain⟨s,rfl,rfl⟩:=hx.str;obtain⟨s',rfl,rfl⟩:=hy.str;cases h0:Zw (s.data.toList.length+s'.data.toList.length<=4611686018427387904) with
   | false=>rw[h0] at h;cases h
   | true =>
    simp only[h0,az,Qa5,Option.some.injEq] at h;subst h;have hle:s.size+s'.size<=4611686018427387904:=by simpa using Qa3 h0
    have:¬ ((s.size+s'.size:Nat):Int)>IntKind.i64.max:=by simp[IntKind.max,IntKind.signed,IntKind.bits];omega
    refine⟨.string (s++s'),?_,.str (by simp)⟩;simp only[binOp,Op.stringOp,this,if_false];rfl
  ·obtain⟨k,n,m,rfl,rfl,hk,hr⟩:=fQ hx hy h;cases hk;exact⟨_,by rw[eJ _ _ _ _ _ (by simp) (by simp)];simp[Op.intArith],fS fun e=>by subst e;exact wrap_u8 _⟩
 ·obtain⟨k,n,m,rfl,rfl,hk,hr⟩:=fQ hx hy h;cases hk;exact⟨_,by rw[eJ _ _ _ _ _ (by simp) (by simp)];simp[Op.intArith],fS fun e=>by subst e;exact wrap_u8 _⟩
 ·obtain⟨k,n,m,rfl,rfl,hk,hr⟩:=fQ hx hy h;cases hk;exact⟨_,by rw[eJ _ _ _ _ _ (by simp) (by simp)];simp[Op.intArith],fS fun e=>by subst e;exact wrap_u8 _⟩
 ·-- quo
  obtain⟨k,n,m,rfl,rfl,hk,hr⟩:=fQ hx hy h;cases h0:(m==0) with
  | true=>simp[h0,az] at hk
  | false =>
   simp[h0,az] at hk;subst hk;have:m≠0:=by simpa using h0
   exact⟨_,by rw[eJ _ _ _ _ _ (by simp) (by simp)];simp[Op.intDiv,this],fS fun e=>by subst e;exact wrap_u8 _⟩
 ·-- rem
  obtain⟨k,n,m,rfl,rfl,hk,hr⟩:=fQ hx hy h;cases h0:(m==0) with
  | true=>simp[h0,az] at hk
  | false =>
   simp[h0,az] at hk;subst hk;have:m≠0:=by simpa using h0
   exact⟨_,by rw[eJ _ _ _ _ _ (by simp) (by simp)];simp[Op.intDiv,this],fS fun e=>by subst e;exact I8 (hr rfl).1⟩
 ·obtain⟨k,n,m,rfl,rfl,hk,hr⟩:=fQ hx hy h;cases hk;exact⟨_,by rw[eJ _ _ _ _ _ (by simp) (by simp)];rfl,fS fun e=>by subst e;exact wrap_u8 _⟩
 ·obtain⟨k,n,m,rfl,rfl,hk,hr⟩:=fQ hx hy h;cases hk;exact⟨_,by rw[eJ _ _ _ _ _ (by simp) (by simp)];rfl,fS fun e=>by subst e;exact wrap_u8 _⟩
 ·obtain⟨k,n,m,rfl,rfl,hk,hr⟩:=fQ hx hy h;cases hk;exact⟨_,by rw[eJ _ _ _ _ _ (by simp) (by simp)];rfl,fS fun e=>by subst e;exact wrap_u8 _⟩
 ·-- lss
  split at h
  ·obtain⟨s,rfl,rfl⟩:=hx.str;obtain⟨s',rfl,rfl⟩:=hy.str;cases h;exact⟨_,by simp[binOp,Op.stringOp,Lib.toList_data],.bool⟩
  ·obtain⟨k,n,m,rfl,rfl,hk,hr⟩:=fQ hx hy h;cases hk;exact⟨_,by rw[eJ _ _ _ _ _ (by simp) (by simp)];rfl,.bool⟩
 ·split at h
  ·obtain⟨s,rfl,rfl⟩:=hx.str;obtain⟨s',rfl,rfl⟩:=hy.str;cases h;exact⟨.bool _,by simp only[binOp,Op.stringOp,Lib.toList_data];rfl,.bool⟩
  ·obtain⟨k,n,m,rfl,rfl,hk,hr⟩:=fQ hx hy h;cases hk;exact⟨_,by rw[eJ _ _ _ _ _ (by simp) (by simp)];rfl,.bool⟩
 ·-- gtr
  split at h
  ·obtain⟨s,rfl,rfl⟩:=hx.str;obtain⟨s',rfl,rfl⟩:=hy.str;cases h;exact⟨.bool _,by simp only[binOp,Op.stringOp,Lib.toList_data];rfl,.bool⟩
  ·obtain⟨k,n,m,rfl,rfl,hk,hr⟩:=fQ hx hy h;cases hk;exact⟨_,by rw[eJ _ _ _ _ _ (by simp) (by simp)];rfl,.bool⟩
 ·split at h
  ·obtain⟨s,rfl,rfl⟩:=hx.str;obtain⟨s',rfl,rfl⟩:=hy.str;cases h;exact⟨.bool _,by simp only[binOp,Op.stringOp,Lib.toList_data];rfl,.bool⟩
  ·obtain⟨k,n,m,rfl,rfl,hk,hr⟩:=fQ hx hy h;cases hk;exact⟨_,by rw[eJ _ _ _ _ _ (by simp) (by simp)];rfl,.bool⟩
 ·-- eql
  split at h
  ·simp[AV.dk] at ha
  ·cases hc:kN a b with
   | none=>simp[hc] at h
   | some c =>
    simp[hc] at h;subst h;exact⟨_,(xF hx hy hc hb).1,.bool⟩
 ·split at h
  ·simp[AV.dk] at ha
  ·cases hc:kN a b with
   | none=>simp[hc] at h
   | some c =>
    simp[hc] at h;subst h;exact⟨_,(xF hx hy hc hb).2,.bool⟩
 ·cases h
theorem Si{op:UnOp}{x:Value}{a v:AV}(hx:bf w p g u x a)(h:Q4 op a=Zz v):∃ v',(Op.unary op x).run P w = .ok v' w/\bG w p v' v:=by
 unfold Q4 at h;split at h
 ·have e:=hx.bool;subst e;cases h;exact⟨_,rfl,.bool⟩
 ·obtain⟨rfl,hk⟩:=hx.int;cases h;exact⟨_,by simp[Op.unary,Op.intArith],.int hk⟩
 ·cases h
end
end Go.Abs
/- Values that go out of a frame; stores. -/
namespace Go.Abs
section
variable {P:Program} {B:Nat} {M:Nat->Prop} {w0:World} {p0:bj} {w:World} {p:bj} {g:Nat->Value}
theorem bM.relabel{st:Nat->br}(h:bM B M w0 p0 w p g st){k:Nat}{b:br}{p':bj}(hk:(st k).live)(hb:b.live)(hp:∀ β,bC (g k)≠Zz β->p' β=p β)
  (hle:∀ β,bC (g k)=Zz β->p β<=p' β) (XP:∀ β,bC (g k)=Zz β->β<B->M β/\p' β=p β)
  (hB:cu w p g (used st) w p' g (used (cl st k b))->lO w p' g (used (cl st k b)) B M k b) :
  bM B M w0 p0 w p' g (cl st k b)/\cu w p g (used st) w p' g (used (cl st k b)):=by
 have JA:b ≠ .free:=fun e=>by rw[e] at hb;exact hb
 have hu:∀ j,used st j->used (cl st k b) j:=fun j hj=>n7 JA hj;have rG:∀ β,p β<=p' β:=fun β=>by
  by_cases e:bC (g k)=Zz β
  ·exact hle β e
  ·rw[hp β e];exact Zd _
 refine h.change rfl rfl rfl (Zd _) (fun j=>j=k) (fun β=>bC (g k)=Zz β) (fun j hj=>bI _ _ hj) hu (fun _ _=>rfl) (fun β _ hd=>⟨rfl,hp β hd⟩) (fun β hd Yt=>XP β hd Yt) rG (fun _ _ _=>rfl) ?_ ?_ ?_ ?_
 ·intro β hβ;rw[hp β (fun e=>by have:=(h.lK k).s8 hk e;omega)];exact h.ly β hβ
 ·intro j β hj hl hv hd;exact h.qL j k β hj hl hk hv hd
 ·rintro j rfl;rw[aP];exact hB ⟨rG,fun _ _ _=>rfl,fun _ _=>rfl,hu⟩
 ·rintro j j' β rfl gj _ qw IF mB;rw[bI _ _ gj] at qw;exact h.qL j j' β (Ne.symm gj) hk qw IF mB
def raise(p:bj)(o:Option Nat)(n:Nat):bj:=fun β=>if o=Zz β then n else p β
theorem fy{p:bj}{o:Option Nat}{n β:Nat}(h:o=Zz β):raise p o n β=n:=by simp[raise,h]
theorem lF{p:bj}{o:Option Nat}{n β:Nat}(h:o≠Zz β):raise p o n β=p β:=by simp[raise,h]
theorem MX{st:Nat->br}(h:bM B M w0 p0 w p g st){k e:Nat}{l:List UInt8}{gC:Bool}(hk:st k = .dX e l gC) :
  ∃ p',bM B M w0 p0 w p' g (cl st k (.dX e l Zn))/\cu w p g (used st) w p' g (used (cl st k (.dX e l Zn)))/\bG w p' (g k) (.bs l):=by
 have hb:=h.lK k;rw[hk] at hb;obtain⟨bz,hp⟩:=hb;have hB:∀ β,bC (g k)=Zz β->B<=β:=fun β hv=>by
  obtain⟨_,⟨_,a,hg⟩ | ⟨β',cap,iV,hg,h0,hB,_⟩⟩:=bz
  ·rw[hg] at hv;cases a<;>simp[bC] at hv
  ·rw[hg] at hv;have:β'=β:=by simp[bC] at hv;exact hv.2
   omega
 obtain⟨hs,hm⟩:=h.relabel (k:=k) (b := .dX e l Zn) (p':=raise p (bC (g k)) l.length) (by rw[hk];trivial) trivial (fun β hv=>lF hv)
  (fun β hv=>by rw[fy hv];exact(hp β hv).1) (fun β hv eY=>by have:=hB β hv;omega)
  (fun hm=>⟨bz,fun β hv=>⟨by rw[fy hv];exact Zd _,fun e=>by cases e⟩⟩)
 refine⟨_,hs,hm,?_⟩;obtain⟨hlen,⟨hn,a,hg⟩ | ⟨β,cap,iV,hg,h0,hB',hh,sL,xq,hcs,fo⟩⟩:=bz
 ·have:l=[]:=Yz hn;subst this;rw[hg];exact .bs 0 0 rfl (Zd _) (.inl rfl) (fun i b hi=>by simp at hi)
 ·rw[hg];refine .bs β 0 rfl sL (.inr rfl) fun i b hi=>⟨?_,?_⟩
  ·rw[fy (by simp[bC];omega)];have:=(Zq.1 hi).1;omega
  ·rw[eC hh];have h1:(l.map iU)[i]? = Zz (iU b):=by simp[hi]
   rw[<-fo,Zj] at h1;split at h1
   ·simpa using h1
   ·cases h1
theorem MY{st:Nat->br}(h:bM B M w0 p0 w p g st){k e z:Nat}{l:List AV}{gC:Bool}(hk:st k = .cU e z l gC) :
  ∃ p',bM B M w0 p0 w p' g (cl st k (.cU e z l Zn))/\cu w p g (used st) w p' g (used (cl st k (.cU e z l Zn)))/\bG w p' (g k) (.sl z l):=by
 have hb:=h.lK k;rw[hk] at hb;obtain⟨hz,eQ,vs,bz,c6,hp⟩:=hb;have hB:∀ β,bC (g k)=Zz β->B<=β:=fun β hv=>by
  obtain⟨_,⟨_,a,hg⟩ | ⟨β',cap,iV,hg,h0,hB,_⟩⟩:=bz
  ·rw[hg] at hv;cases a<;>simp[bC] at hv
  ·rw[hg] at hv;have:β'=β:=by simp[bC] at hv;exact hv.2
   omega
 obtain⟨hs,hm⟩:=h.relabel (k:=k) (b := .cU e z l Zn) (p':=raise p (bC (g k)) (l.length*z)) (by rw[hk];trivial) trivial (fun β hv=>lF hv)
  (fun β hv=>by rw[fy hv];exact(hp β hv).1) (fun β hv eY=>by have:=hB β hv;omega)
  (fun hm=>⟨hz,eQ,vs,bz,c6.imp fun _ _=>hm.tf,fun β hv=>⟨by rw[fy hv];exact Zd _,fun e=>by cases e⟩⟩)
 refine⟨_,hs,hm,?_⟩;have Rn:=ic eQ;obtain⟨hlen,⟨hn,a,hg⟩ | ⟨β,cap,iV,hg,h0,hB',hh,sL,xq,hcs,fo⟩⟩:=bz
 ·have:l=[]:=Yz hn;subst this;rw[hg];exact .sl 0 0 (fun _=>undef) rfl (Zd _) (fun _ h=>by cases h) (.inl rfl) (fun i b hi=>by simp at hi) (fun i b hi=>by simp at hi)
 ·have GM:=c6.imp fun v c JN=>hm.tf JN;rw[hg] at GM ⊢;refine .sl β 0 (fun j=>vs.getD j undef) rfl sL eQ (.inr rfl) (fun j c hj=>⟨?_,?_⟩) (fun j c hj=> ?_)
  ·rw[fy (by simp[bC];omega)];have:=(Zq.1 hj).1;omega
  ·obtain⟨v,hv,_⟩:=GM.get hj;rw[eC hh];have h1:=hv;rw[<-fo,Zj] at h1;split at h1
   ·simp[hv];simpa using h1
   ·cases h1
  ·obtain⟨v,hv,hr⟩:=GM.get hj;simp[hv];exact hr
def iR(w:World)(p:bj)(v:Value)(a:AV):Prop:=bG w p v a\/∃ cF cs,v = .agg cF/\a = .agg cs/\aU (bG w p) cF.toList cs
theorem iR.v{u:Nat->Prop}{v:Value}{a:AV}(h:iR w p v a):bf w p g u v a:=by
 rcases h with h | ⟨cF,cs,rfl,rfl,h⟩
 ·exact h.v
 ·exact .inr (.inl (.inr ⟨cF,cs,rfl,rfl,h.imp fun _ _ => .kq⟩))
theorem iR.mono{w':World}{p':bj}(hp:∀ β,p β<=p' β)(hc:∀ β i,i<p β->w'.cell? ⟨β,i,none⟩=w.cell? ⟨β,i,none⟩){v:Value}{a:AV}(h:iR w p v a):iR w' p' v a:=by
 rcases h with h | ⟨cF,cs,rfl,rfl,h⟩
 ·exact .inl (h.mono hp hc)
 ·exact .inr ⟨cF,cs,rfl,rfl,h.imp fun _ _ hh=>hh.mono hp hc⟩
theorem iR.cells{v:Value}{a:AV}(h:iR w p v a):aU (bG w p) v.cells.toList a.cells:=by
 rcases h with h | ⟨cF,cs,rfl,rfl,h⟩
 ·rw[h.re.1,h.re.2.2.1];exact .cons h .nil
 ·exact h
def iY(st st':Nat->br):Prop:=(∀ b cs,st b = .cells cs->st' b = .cells cs)/\∀ b e z l,st b = .gU e z l->st' b = .gU e z l
theorem iY.refl{st:Nat->br}:iY st st:=⟨fun _ _ h=>h,fun _ _ _ _ h=>h⟩
theorem iY.trans{a b c:Nat->br}(h:iY a b)(k:iY b c):iY a c:=⟨fun x cs hx=>k.1 x cs (h.1 x cs hx),fun x e z l hx=>k.2 x e z l (h.2 x e z l hx)⟩
theorem iY.cl{st:Nat->br}{r:Nat}{x:br}(h:∀ cs,st r ≠ .cells cs)(h2:∀ e z l,st r ≠ .gU e z l):iY st (Abs.cl st r x) :=
 ⟨fun b cs hb=>by rw[bI _ _ (fun e=>by subst e;exact h cs hb)];exact hb,fun b e z l hb=>by rw[bI _ _ (fun q=>by subst q;exact h2 e z l hb)];exact hb⟩
theorem sW{α:Type}{st:Nat->br}(h:bM B M w0 p0 w p g st){c:CT}{x:Value}{v:AV}(hx:bf w p g (used st) x v){k:AV->(Nat->br)->FP->Option α}{r:α}(hk:zH c v st k=Zz r) :
  ∃ a st' fp p',k a st' fp=Zz r/\bM B M w0 p0 w p' g st'/\cu w p g (used st) w p' g (used st')/\bG w p' x a/\iY st st':=by
 unfold zH at hk;split at hk
 ·obtain⟨a,rfl⟩:=hx.cJ;exact⟨_,_,_,p,hk,h,cu.refl,.bs 0 0 rfl (Zd _) (.inl rfl) (fun i b hi=>by simp at hi),iY.refl⟩
 ·obtain⟨a,rfl⟩:=hx.cJ;exact⟨_,_,_,p,hk,h,cu.refl,.sl 0 0 (fun _=>undef) rfl (Zd _) (fun _ h=>by cases h) (.inl rfl) (fun i b hi=>by simp at hi) (fun i b hi=>by simp at hi),iY.refl⟩
 ·rename_i r';obtain⟨hu,rfl,_⟩:=hx.row;split at hk
  ·rename_i e l gC cW;obtain⟨p',hs,hm,hr⟩:=MX h cW;exact⟨_,_,_,p',hk,hs,hm,hr,iY.cl (fun cs e=>by rw[cW] at e;cases e) (fun e z l q=>by rw[cW] at q;cases q)⟩
  ·rename_i e z l gC cW;obtain⟨p',hs,hm,hr⟩:=MY h cW;exact⟨_,_,_,p',hk,hs,hm,hr,iY.cl (fun cs e=>by rw[cW] at e;cases e) (fun e z l q=>by rw[cW] at q;cases q)⟩
  ·cases hk
 ·obtain⟨rfl,hn⟩:=hx.int;exact⟨_,_,_,p,hk,h,cu.refl,.int hn,iY.refl⟩
 ·have e:=hx.u8;subst e;exact⟨_,_,_,p,hk,h,cu.refl,.u8,iY.refl⟩
 ·have e:=hx.bool;subst e;exact⟨_,_,_,p,hk,h,cu.refl,.bool,iY.refl⟩
 ·obtain⟨s,rfl,hs⟩:=hx.str;exact⟨_,_,_,p,hk,h,cu.refl,.str hs,iY.refl⟩
 ·exact⟨_,_,_,p,hk,h,cu.refl,hx.bs,iY.refl⟩
 ·exact⟨_,_,_,p,hk,h,cu.refl,hx.sl,iY.refl⟩
 ·have:bG w p x .lN:=by
   rcases hx with hx | (hx | ⟨cF,cs,_,hx,_⟩) | ⟨cF,cs,_,hx,_⟩<;>first | cases hx
   assumption
  exact⟨_,_,_,p,hk,h,cu.refl,this,iY.refl⟩
 ·exact⟨_,_,_,p,hk,h,cu.refl,hx.jg,iY.refl⟩
 ·cases hk
theorem zX{α:Type}{st:Nat->br}(h:bM B M w0 p0 w p g st){c:CT}{x:Value}{v:AV}(hx:bf w p g (used st) x v){k:AV->(Nat->br)->FP->Option α}{r:α}(hk:zH c v st k=Zz r) :
  ∃ a st' fp p',k a st' fp=Zz r/\bM B M w0 p0 w p' g st'/\cu w p g (used st) w p' g (used st')/\bG w p' x a:=by
 obtain⟨a,st',fp,p',h1,h2,h3,h4,_⟩:=sW h hx hk;exact⟨a,st',fp,p',h1,h2,h3,h4⟩
theorem n0{α:Type}:∀ {fX:List CT} {vs:List AV} {xs:List Value} {st:Nat->br} {p:bj},bM B M w0 p0 w p g st->aU (cm w p g (used st)) xs vs->∀ {k:List AV->(Nat->br)->FP->Option α} {r:α},
  lU fX vs st k=Zz r->∃ as st' fp p',k as st' fp=Zz r/\bM B M w0 p0 w p' g st'/\cu w p g (used st) w p' g (used st')/\aU (bG w p') xs as/\iY st st'
 | [],[],xs,st,p,h,hx,k,r,hk=>by
  simp only[lU] at hk;have:=hx.iN;subst this;exact⟨_,_,_,p,hk,h,cu.refl,.nil,iY.refl⟩
 | c::cs,v::vs,xs,st,p,h,hx,k,r,hk=>by
  simp only[lU] at hk;obtain⟨x,OG,rfl,h1,h2⟩:=hx.gF;obtain⟨a,bU,f1,p1,bN,jF,jW,qx,x7⟩:=sW h h1.v hk;obtain⟨as,bL,f2,p2,aX,fJ,kY,nb,yV⟩:=n0 jF (h2.imp fun _ _=>jW.A_) bN;exact⟨_,_,_,p2,aX,fJ,jW.trans kY,.cons (kY.tf qx) nb,x7.trans yV⟩
 | [],_::_,_,_,_,_,_,_,_,hk=>by simp[lU] at hk
 | _::_,[],_,_,_,_,_,_,_,hk=>by simp[lU] at hk
theorem vV{α:Type}{st:Nat->br}(h:bM B M w0 p0 w p g st){i:TI}{x:Value}{v:AV}(hx:bf w p g (used st) x v){k:AV->(Nat->br)->FP->Option α}{r:α}(hk:out i v st k=Zz r) :
  ∃ a st' fp p',k a st' fp=Zz r/\bM B M w0 p0 w p' g st'/\cu w p g (used st) w p' g (used st')/\iR w p' x a/\iY st st':=by
 unfold out at hk;split at hk
 ·obtain⟨cF,rfl,hc⟩:=hx.agg;obtain⟨as,st',fp,p',oT,hs,hm,hr,hp⟩:=n0 h hc hk;exact⟨_,_,_,p',oT,hs,hm,.inr ⟨cF,as,rfl,rfl,hr⟩,hp⟩
 ·split at hk
  ·obtain⟨a,st',fp,p',oT,hs,hm,hr,hp⟩:=sW h hx hk;exact⟨_,_,_,p',oT,hs,hm,.inl hr,hp⟩
  ·cases hk
 ·cases hk
theorem yj{α:Type}{st:Nat->br}(h:bM B M w0 p0 w p g st){i:TI}{x:Value}{v:AV}(hx:bf w p g (used st) x v){k:AV->(Nat->br)->FP->Option α}{r:α}(hk:out i v st k=Zz r) :
  ∃ a st' fp p',k a st' fp=Zz r/\bM B M w0 p0 w p' g st'/\cu w p g (used st) w p' g (used st')/\iR w p' x a:=by
 obtain⟨a,st',fp,p',h1,h2,h3,h4,_⟩:=vV h hx hk;exact⟨a,st',fp,p',h1,h2,h3,h4⟩
def DY(B:Nat)(M:Nat->Prop)(w0:World)(p0:bj)(w:World)(p:bj)(g:Nat->Value)(st:Nat->br)(st':Nat->br)(r:Result Unit):Prop :=
 ∃ w' p' g',r = .ok () w'/\bM B M w0 p0 w' p' g' st'/\cu w p g (used st) w' p' g' (used st')
theorem Ku{β:Type}(c:List β)(j:Nat)(x:β)(h:j<c.length):c.take j++[x]++c.drop (j+1)=c.set j x:=by
 rw[List.set_eq_take_append_cons_drop,Qa1 h];simp
theorem om{R:Value->AV->Prop}{vs us:List Value}{cs ds:List AV}(h:aU R vs cs)(k:aU R us ds)(off:Nat) :
  aU R (vs.take off++us++vs.drop (off+us.length)) (place cs off ds):=by
 unfold place;rw[k.len];exact((h.take off).append k).append (h.drop _)
theorem nr{t:Nat}{i:TI}(hi:d_ P t=Zz i){β off:Nat}{c:Array Value}{e:TypeId}(hh:w.heap[β]? = Zz (.cells c e (0,0))){v:Value}(hl:v.cells.size=i.size)(tW:off+i.size<=c.size)
  (h1:∀ x∈v.cells.toList,x.oneCell'=Zn) :
  (storeVar t ⟨β,off,none⟩ v).run P w = .ok () (w.setRow β (c.toList.take off++v.cells.toList++c.toList.drop (off+v.cells.toList.length)).toArray):=by
 obtain⟨info,z,a1,a2,a3,a4,a5,a6,a7,a8,a9,_⟩:=a_ hi;have cW:=run_storeCells_at (P:=P) β off e v.cells.toList 0 c w hh (by simp;omega) h1;simp only[Nat.add_zero] at cW;simp[storeVar,run_sizeOf a1,a2,hl,cW]
theorem HJ(a b:List AV)(off:Nat)(n:List AV)(h:off+n.length<=a.length):place (a++b) off n=place a off n++b:=by grind [place]
theorem FH(a b:List AV)(q:Nat)(n:List AV):place (a++b) (a.length+q) n=a++place b q n:=by
 unfold place;rw[List.take_append,List.drop_append,List.take_of_length_le (by omega),List.drop_of_length_le (by omega)];rw[show a.length+q-a.length=q by omega,show a.length+q+n.length-a.length=q+n.length by omega];simp
theorem yL{sz off:Nat}{news:List AV}:∀ {els:List AV} {j:Nat} {x x':AV},els[j]? = Zz x->(∀ y∈els,y.cells.length=sz)->x'.cells=place x.cells off news->off+news.length<=sz ->
  (els.set j x').flatMap AV.cells=place (els.flatMap AV.cells) (j*sz+off) news
 | [],j,x,x',h,_,_,_=>by simp at h
 | y::r,0,x,x',h,hs,hx,hf=>by
  simp at h;subst h;have hy:=hs y (by simp);rw[List.set_cons_zero,Zg,Zg,hx,Nat.zero_mul,Nat.zero_add,HJ _ _ _ _ (by omega)]
 | y::r,j+1,x,x',h,hs,hx,hf=>by
  simp at h;have hy:=hs y (by simp);have ih:=yL h (fun z hz=>hs z (by simp[hz])) hx hf;rw[List.set_cons_succ,Zg,Zg,ih];rw[show(j+1)*sz+off=y.cells.length+(j*sz+off) by rw[hy,Yy];omega,FH]
theorem vR(cs:List AV)(off:Nat)(n:List AV)(h:off+n.length<=cs.length):(place cs off n).length=cs.length:=by
 unfold place;simp;omega
theorem wj{c:List Value}{n q:Nat}{us:List Value}(h:q+us.length<=n)(hn:n<=c.length):(c.take q++us++c.drop (q+us.length)).take n=(c.take n).take q++us++(c.take n).drop (q+us.length):=by
 apply List.ext_getElem?;intro i;simp only[Zj,List.getElem?_append,Yx,List.length_append,List.length_take];by_cases h1:i<n
 ·by_cases h2:i<q
  ·have e1:i<min q c.length+us.length:=by omega
   have e2:i<min q c.length:=by omega
   have e3:i<min q (min n c.length)+us.length:=by omega
   have e4:i<min q (min n c.length):=by omega
   simp[h1,h2,e1,e2,e3,e4]
  ·by_cases h3:i<q+us.length
   ·have e1:i<min q c.length+us.length:=by omega
    have e2:¬ i<min q c.length:=by omega
    have e3:i<min q (min n c.length)+us.length:=by omega
    have e4:¬ i<min q (min n c.length):=by omega
    simp[h1,e1,e2,e3,e4];congr 1;omega
   ·have e1:¬ i<min q c.length+us.length:=by omega
    have e3:¬ i<min q (min n c.length)+us.length:=by omega
    have e5:q+us.length+(i-(min q (min n c.length)+us.length))<n:=by omega
    simp[h1,e1,e3];rw[Qa1 (by omega)];congr 1;omega
 ·have e1:¬ i<min q (min n c.length)+us.length:=by omega
  simp[h1,e1];intro h5;omega
theorem FV{α:Type}{E:Env}(ez:∀ t i,E.ty t=Zz i->d_ P t=Zz i){fr:Fr}{t:Nat}{i:TI}(hi:d_ P t=Zz i)(h:bM B M w0 p0 w p g fr.st){x y:Value}{a b:AV}(hx:bf w p g (used fr.st) x a)(hy:bf w p g (used fr.st) y b){k:j5 α}{r:α}
  (hk:mv E fr i a b k=Zz r):∃ st' fp,k .undef st' fp=Zz r/\DY B M w0 p0 w p g fr.st st' ((Instr.storeAt t x y).run P w):=by
 unfold mv at hk;split at hk
 ·rename_i kk off;obtain⟨hu,β,hg,rfl⟩:=hx.ptr;have hb:=h.lK kk;split at hk
  ·rename_i cs cW;rw[cW] at hb;obtain⟨β',c,e,h1,h2,h3,h4,h5⟩:=hb;have:β'=β:=by rw[h1] at hg;cases hg;rfl
   subst this;obtain⟨dq,aX⟩:=cf hk;simp only[Zp,Qb0] at dq;obtain⟨⟨hlen,tW⟩,hcell⟩:=dq;have pg:off+i.size<=cs.length:=Zu tW;have Y_:=hy.cells hcell;rw[sS _ _ _ (by rw[hlen];exact pg)] at aX;refine⟨_,_,aX,?_⟩;have eQ:y.cells.size=i.size:=by have:=Y_.len;simp at this;omega
   have aeg:c.size=cs.length:=by have:=h4.len;simpa using this
   have dy:=nr (P:=P) (w:=w) hi h3 (v:=y) (off:=off) eQ (by omega) Y_.one;obtain⟨hs,hm⟩:=h.modify (k:=kk) (b := .cells (place cs off b.cells)) (w':=w.setRow β' (c.toList.take off++y.cells.toList++c.toList.drop (off+y.cells.toList.length)).toArray) (p':=p) (β₀:=β') (by rw[cW];trivial) trivial (by rw[h1];rfl)
    rfl rfl rfl (by simp) (fun β gj=>⟨setRow_other w β' β _ gj,rfl⟩) (fun eY=>⟨by rcases h2 with h2 | h2;exact h2;omega,rfl⟩) (Zd _) (fun i hi=>by rw[h5] at hi;omega)
    (fun hm=>⟨β',_,e,h1,h2,setRow_heap w β' c _ e _ h3,by
     have:=om h4 Y_ off;simpa using this.imp fun _ _=>hm.A_,h5⟩)
   exact⟨_,p,g,by simpa [Instr.storeAt,Instr.sureAddr] using dy,hs,hm⟩
  ·cases hk
 ·rename_i kk j sz off;obtain⟨hu,β,hg,rfl⟩:=hx.jc;have hb:=h.lK kk;have key:∀ (l:List UInt8) (c:Array Value) (e:TypeId) (n:Nat) (gC:Bool) (mk:List UInt8->br),w.heap[β]? = Zz (.cells c e (0,0))->c.toList.take n=l.map iU->(gC=Zv->p β=0)->B<=β->(fr.st kk).live->(∀ l,(mk l).live) ->
    (∀ (xb:UInt8),j<l.length->gC=Zv->∀ (w':World),w'.heap[β]? = Zz (.cells (c.toList.set j (iU xb)).toArray e (0,0))->∀ u',lO w' p g u' B M kk (mk (l.set j xb))) ->
    (b.nW fun x=>az (Zk j l.length&&Zy off 0&&Zy sz 1&&Zy i.size 1 && !gC) (k .undef (cl fr.st kk (mk (l.set j x))) ⟨[kk],[kk]⟩))=Zz r ->
    ∃ st' fp,k .undef st' fp=Zz r/\DY B M w0 p0 w p g fr.st st' ((Instr.storeAt t (.pointer (Zz ⟨β,j*sz+off,none⟩)) y).run P w):=by
   intro l c e n gC mk hh fo hp Pe vt Ru X0 aX;unfold AV.nW at aX;split at aX
   ·rename_i _ xb;have hyv:=hy.u8;subst hyv;obtain⟨dq,cD⟩:=aH aX;simp only[Zp,Bool.not_eq_true'] at dq;obtain⟨⟨⟨⟨hj,ho⟩,hs⟩,jF⟩,C3⟩:=dq;have eY:j<l.length:=Zu hj;have eQ:i.size=1:=Zx jF;have Hi:=Zx ho;have YV:=Zx hs;subst Hi;subst YV;subst C3;have hjc:j<c.size:=by
     have:=Qb3 List.length fo;simp at this;omega
    have dy:=nr (P:=P) (w:=w) hi hh (v:=iU xb) (off:=j) (by simp[iU,Value.cells,eQ]) (by omega) (fun x hx=>by simp[iU,Value.cells] at hx;subst hx;rfl);refine⟨_,_,cD,?_⟩;have c6:(iU xb).cells.toList=[iU xb]:=rfl;rw[c6] at dy;simp only[List.length_singleton] at dy;rw[Ku _ _ _ (by simpa using hjc)] at dy;obtain⟨hs,hm⟩:=h.modify (k:=kk) (b:=mk (l.set j xb)) (w':=w.setRow β (c.toList.set j (iU xb)).toArray) (p':=p) (β₀:=β) vt (Ru _) hg
     rfl rfl rfl (by simp) (fun β' gj=>⟨setRow_other w β β' _ gj,rfl⟩) (fun eY=>by omega) (Zd _) (fun i hi=>by rw[hp rfl] at hi;omega)
     (fun hm=>X0 xb eY rfl _ (setRow_heap w β c _ e _ hh) _)
    exact⟨_,p,g,by simpa [Instr.storeAt,Instr.sureAddr] using dy,hs,hm⟩
   ·cases aX
  split at hk
  ·rename_i e l gC cW;rw[cW] at hb;obtain⟨⟨hlen,⟨hn,a,hv⟩ | ⟨β',cap,iV,hv,h0,hB,hh,sL,xq,hcs,fo⟩⟩,hp⟩:=hb
   ·rw[hv] at hg;cases a<;>simp[bC] at hg
   ·have LN:β'=β:=by rw[hv] at hg;simp[bC] at hg;exact hg.2
    subst LN;refine key l iV e _ gC (fun l => .dX e l Zv) hh fo ((hp β' hg).2) hB (by rw[cW];trivial) (fun _=>trivial) ?_ hk;intro xb eY C3 w' Ma u';refine⟨⟨by simp,.inr ⟨β',cap,_,hv.trans (by simp),h0,hB,Ma,by simpa using sL,xq,?_,?_⟩⟩,fun β mB=> ?_⟩
    ·simpa using hcs
    ·simp only[List.length_set];rw[List.take_set,fo,List.map_set]
    ·rw[hg] at mB;cases mB;exact⟨by rw[(hp β' hg).2 C3];exact Nat.zero_le _,fun _=>(hp β' hg).2 C3⟩
  ·rename_i l gC cW;rw[cW] at hb;obtain⟨β',c,e,h1,h2,h3,h4,h5,h6⟩:=hb;have LN:β'=β:=by rw[h1] at hg;simp[bC] at hg;exact hg
   subst LN;refine key l c e c.size gC (fun l => .h_ l Zv) h3 (by rw[List.take_of_length_le (by simp)];exact h4) h6 h2 (by rw[cW];trivial) (fun _=>trivial) ?_ hk;intro xb eY C3 w' Ma u';refine⟨β',_,e,h1,h2,Ma,?_,by rw[h6 C3];exact Nat.zero_le _,fun _=>h6 C3⟩;show c.toList.set j (iU xb)=_;rw[h4,List.map_set]
  ·rename_i e z l gC cW;split at hk
   ·rename_i ei g8;obtain⟨dq,aX⟩:=aH hk;simp only[Zp,Bool.not_eq_true'] at dq;obtain⟨⟨Yo,hz⟩,ac8⟩:=dq;have Md:=Zx hz;subst Md;obtain⟨v',bU,f1,p1,cD,jF,jW,qx⟩:=yj h hy aX;have xo:=jF.lK kk;split at cD
    ·rename_i e1 z1 l1 yY;have mz:=iF cD;obtain⟨dq,wN⟩:=cf mz;simp only[Zp,Qb0] at dq;obtain⟨⟨⟨⟨LZ,tW⟩,je⟩,JQ⟩,SQ⟩:=dq;have RL:=Zx JQ;subst RL;have pg:=Zu tW;have xt:0<i.size:=Zu je;have JJ:j<l1.length:=Zu SQ;rw[yY] at xo;obtain⟨qy,eQ,vs,bz,c6,hp⟩:=xo;obtain⟨hlen,⟨hn,a,hv⟩ | ⟨β',cap,iV,hv,h0,hB,hh,sL,xq,hcs,fo⟩⟩:=bz
     ·omega
     ·have LN:β'=β:=by rw[hv] at hg;simp[bC] at hg;exact hg.2
      subst LN;have rE:l1[j]? = Zz (l1.getD j .undef):=by simp[JJ]
      have hold:(l1.getD j .undef).cells.length=z1:=eQ _ (List.mem_of_getElem? rE);have JN:=qx.cells;have L_:y.cells.toList.length=i.size:=by rw[JN.len,LZ]
      have E2:y.cells.size=i.size:=by simpa using L_
      have SW:=(hp β' hg).2 rfl;have yT:(j+1)*z1<=l1.length*z1:=Zm z1 JJ;rw[Yy] at yT;have X_:l1.length*z1<=cap*z1:=Zm z1 sL;have dy:=nr (P:=P) (w:=w) hi hh (v:=y) (off:=j*z1+off) E2 (by rw[hcs];omega) JN.R4;obtain⟨info,z,a1,a2,a3,a4,a5,a6,a7,a8,a9,_⟩:=a_ (ez _ _ g8);have Mb:(qF ei (l1.getD j .undef) off v'.cells).cells=place (l1.getD j .undef).cells off v'.cells:=by
       unfold qF;split
       ·rfl
       ·rename_i qM;have wq:=BO cD qM;have OP:z1=1:=by rw[<-hold,wq];rfl
        have yU:v'.cells.length=1:=by rw[wq] at pg;simp at pg;omega
        have YI:off=0:=by rw[wq] at pg;simp at pg;omega
        obtain⟨c,AX⟩:=List.length_eq_one_iff.1 yU;rw[AX] at JN ⊢;obtain⟨cv,_,_,LQ,_⟩:=JN.gF;rw[wq,YI];simp[place,LQ.re.2.2.1]
      refine⟨_,_,wN,?_⟩;obtain⟨fJ,kY⟩:=jF.modify (k:=kk) (b := .cU e1 z1 (l1.set j (qF ei (l1.getD j .undef) off v'.cells)) Zv) (w':=w.setRow β' (iV.toList.take (j*z1+off)++y.cells.toList++iV.toList.drop (j*z1+off+y.cells.toList.length)).toArray) (p':=p1) (β₀:=β')
       (by rw[yY];trivial) trivial hg rfl rfl rfl (by simp) (fun β gj=>⟨setRow_other w β' β _ gj,rfl⟩) (fun eY=>by omega) (Zd _) (fun q hq=>by rw[SW] at hq;omega)
       (fun hm=>by
        refine⟨qy,fun q hq=> ?_,vs.take (j*z1+off)++y.cells.toList++vs.drop (j*z1+off+y.cells.toList.length),⟨?_,.inr ⟨β',cap,_,hv.trans (by simp),h0,hB,setRow_heap w β' iV _ e1 _ hh,by simpa using sL,xq,?_,?_⟩⟩,?_,fun β mB=> ?_⟩
        ·rcases List.mem_or_eq_of_mem_set hq with hq | rfl
         ·exact eQ q hq
         ·rw[Mb,vR _ _ _ (by rw[LZ];omega),hold]
        ·simp;omega
        ·simp;omega
        ·simp only[List.length_set];rw[wj (by omega) (by simp;omega),fo]
        ·rw[yL rE eQ Mb (by rw[LZ,<-hold];omega)];have:=om c6 (JN) (j*z1+off);exact this.imp fun _ _=>hm.tf
        ·rw[hg] at mB;cases mB;exact⟨by rw[SW];exact Nat.zero_le _,fun _=>SW⟩)
      exact⟨_,p1,g,by simpa [Instr.storeAt,Instr.sureAddr] using dy,fJ,jW.trans kY⟩
    ·cases cD
   ·cases hk
  ·rename_i e z l cW;split at hk
   ·rename_i ei g8;obtain⟨dq,aX⟩:=aH hk;simp only[Zp] at dq;obtain⟨Yo,hz⟩:=dq;have Md:=Zx hz;subst Md;obtain⟨v',bU,f1,p1,cD,jF,jW,qx⟩:=yj h hy aX;have xo:=jF.lK kk;split at cD
    ·rename_i e1 z1 l1 yY;have mz:=iF cD;obtain⟨dq,wN⟩:=cf mz;simp only[Zp,Qb0] at dq;obtain⟨⟨⟨⟨LZ,tW⟩,je⟩,JQ⟩,SQ⟩:=dq;have RL:=Zx JQ;subst RL;have pg:=Zu tW;have xt:0<i.size:=Zu je;have JJ:j<l1.length:=Zu SQ;rw[yY] at xo;obtain⟨β',cap,hv,hB,qy,eQ,h0,sL,xq,SW,iV,vs,hh,hcs,hlen,fo,c6⟩:=xo
     ·have LN:β'=β:=by rw[hv] at hg;simp[bC] at hg;exact hg.2
      subst LN;have rE:l1[j]? = Zz (l1.getD j .undef):=by simp[JJ]
      have hold:(l1.getD j .undef).cells.length=z1:=eQ _ (List.mem_of_getElem? rE);have JN:=qx.cells;have L_:y.cells.toList.length=i.size:=by rw[JN.len,LZ]
      have E2:y.cells.size=i.size:=by simpa using L_
      have yT:(j+1)*z1<=l1.length*z1:=Zm z1 JJ;rw[Yy] at yT;have X_:l1.length*z1<=cap*z1:=Zm z1 sL;have dy:=nr (P:=P) (w:=w) hi hh (v:=y) (off:=j*z1+off) E2 (by rw[hcs];omega) JN.R4;obtain⟨info,z,a1,a2,a3,a4,a5,a6,a7,a8,a9,_⟩:=a_ (ez _ _ g8);have Mb:(qF ei (l1.getD j .undef) off v'.cells).cells=place (l1.getD j .undef).cells off v'.cells:=by
       unfold qF;split
       ·rfl
       ·rename_i qM;have wq:=BO cD qM;have OP:z1=1:=by rw[<-hold,wq];rfl
        have yU:v'.cells.length=1:=by rw[wq] at pg;simp at pg;omega
        have YI:off=0:=by rw[wq] at pg;simp at pg;omega
        obtain⟨c,AX⟩:=List.length_eq_one_iff.1 yU;rw[AX] at JN ⊢;obtain⟨cv,_,_,LQ,_⟩:=JN.gF;rw[wq,YI];simp[place,LQ.re.2.2.1]
      refine⟨_,_,wN,?_⟩;obtain⟨fJ,kY⟩:=jF.modify (k:=kk) (b := .gU e1 z1 (l1.set j (qF ei (l1.getD j .undef) off v'.cells))) (w':=w.setRow β' (iV.toList.take (j*z1+off)++y.cells.toList++iV.toList.drop (j*z1+off+y.cells.toList.length)).toArray) (p':=p1) (β₀:=β')
       (by rw[yY];trivial) trivial hg rfl rfl rfl (by simp) (fun β gj=>⟨setRow_other w β' β _ gj,rfl⟩) (fun eY=>⟨hB.resolve_right (by omega),rfl⟩) (Zd _) (fun q hq=>by rw[SW] at hq;omega)
       (fun hm=>by
        refine⟨β',cap,hv.trans (by simp),hB,qy,fun q hq=> ?_,h0,by simpa using sL,xq,SW,_,vs.take (j*z1+off)++y.cells.toList++vs.drop (j*z1+off+y.cells.toList.length),setRow_heap w β' iV _ e1 _ hh,?_,?_,?_,?_⟩
        ·rcases List.mem_or_eq_of_mem_set hq with hq | rfl
         ·exact eQ q hq
         ·rw[Mb,vR _ _ _ (by rw[LZ];omega),hold]
        ·simp;omega
        ·simp;omega
        ·simp only[List.length_set];rw[wj (by omega) (by simp;omega),fo]
        ·rw[yL rE eQ Mb (by rw[LZ,<-hold];omega)];have:=om c6 (JN) (j*z1+off);exact this.imp fun _ _=>hm.tf)
      exact⟨_,p1,g,by simpa [Instr.storeAt,Instr.sureAddr] using dy,fJ,jW.trans kY⟩
    ·cases cD
   ·cases hk
  ·cases hk
 ·cases hk
end
end Go.Abs
