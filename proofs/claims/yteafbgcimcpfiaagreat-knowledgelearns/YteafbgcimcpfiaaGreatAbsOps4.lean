/- The abstract interpreter: values, stores, operations, code. Plain definitions; nothing is claimed here. -/
import GoSem.Step
import Derived.Below
import Derived.Deep.AppendSrc
import Derived.Deep.LoopGhost
import Derived.Laws.IdiomStrings
import Derived.Lib.Strings
set_option linter.all false
open Go.IntKind renaming i64->AI
open Option renaming some->Zz
open Nat renaming beq->Zy,eq_of_beq_eq_true->Zx,le_of_ble_eq_true->Zu,blt->Zk,le_refl->Zd,lt_of_lt_of_le->Zf,mul_le_mul_right->Zm,ble->Zh,add_mul->Yy
open Decidable renaming decide->Zw
open Bool renaming false->Zv,and_eq_true->Zp,true->Zn
open List renaming getElem?_eq_some_iff->Zq,getElem?_take->Zj,flatMap_cons->Zg,getElem?_eq_getElem->Zb,eq_nil_of_length_eq_zero->Yz,getElem?_drop->Yx
abbrev Qa0:=@if_neg
abbrev Qa1:=@if_pos
abbrev Qa2:=@decide_eq_true_eq
abbrev Qa3:=@of_decide_eq_true
abbrev Qa4:=@decide_eq_true
abbrev Qa5:=@decide_eq_false
abbrev Qa6:=@cond_true
abbrev Qa7:=@cond_false
abbrev Qa8:=@and_true
abbrev Qa9:=@true_and
abbrev Qb0:=@eq_of_beq
abbrev Qb1:=@beq_iff_eq
abbrev Qb2:=@beq_self_eq_true
abbrev Qb3:=@Eq.trans
abbrev Qb4:=@decide_true
abbrev Qb5:=@congrArg
namespace Kerb
def FE(n m:Int):Int:=if m<n then m else n
def imax(n m:Int):Int:=if m>n then m else n
end Kerb
namespace Go.Abs
inductive AV where
 | undef
 | int (k:IntKind) (n:Int)
 | u8 (b:UInt8)
 | bool (b:Bool)
 | str (s:List UInt8)
 | bs (l:List UInt8)
 | sl (sz:Nat) (els:List AV)
 | dq
 | row (k:Nat)
 | ptr (k off:Nat)
 | kQ (k i sz off:Nat)
 | k_ (cs:List AV)
 | nL
 | agg (cs:List AV)
 | aQ (vs:List AV)
 | bY (l:List UInt8)
 | aH (els:List AV)
 | bP (k:Nat) (iM:List Nat)
 | rW (k off:Nat)
 | pre (k n:Nat)
 | GF (k m:Nat)
 | fn (f:Nat)
 | C4 (f:Nat) (fs cs:List (Nat×Nat))
 | FV
 | mp (k:Nat)
 | ym
 | bR (k e sz:Nat)
inductive bM where
 | free
 | dead
 | cells (cs:List AV)
 | jx (l:List UInt8) (iO:Bool)
 | fg (e:Nat) (l:List UInt8) (iO:Bool)
 | dG (e sz:Nat) (els:List AV) (iO:Bool)
 | oK (str:Bool) (kd:IntKind) (els:List AV)
 | jh (e sz:Nat) (els:List AV)
inductive CT where
 | int (k:IntKind) | u8 | bool | str | eV | sl (sz:Nat) | ptr | other
inductive TK where
 | int (k:IntKind) | u8 | bool | str
 | slice (e:Nat) (byte:Bool)
 | df (n e:Nat) (byte:Bool)
 | struct (fs:List (Nat×Nat))
 | ptr (e:Nat)
 | map (k e:Nat)
 | other
structure TI where
 size:Nat
 bytes:Nat
 kind:TK
 zero:List AV
 ie:List CT
 Xc:List CT
inductive KC where
 | mh (c:CT)
 | own (key e z:Nat) (byte:Bool)
 | sU (key:Nat) (str:Bool) (kd:IntKind)
inductive jO where
 | val (slot ty:Nat)
 | fg (slot e:Nat) (iO:Bool)
 | dG (slot e sz:Nat) (iO:Bool)
 | ptr (slot k off:Nat)
 | cells (k:Nat) (ie:List CT)
 | jx (k:Nat) (iO:Bool)
 | bP (slot k:Nat) (iM:List Nat)
 | j8 (k:Nat) (tt:List KC)
 | rowAt (k:Nat) (h:Bool) (e sz:Nat)
 | iq (slot k e sz:Nat)
abbrev aO:=List (List AV)
abbrev OD:=Nat->List AV->List (Nat×List AV)->Option (AV×aO)
structure Fr where
 aS:Nat->AV
 st:Nat->bM
structure FP where
 rd:List Nat
 wr:List Nat
def FP.none:FP:=⟨[],[]⟩
abbrev ml(O:Type):=AV->(Nat->bM)->FP->Option O
def merge(wr:List Nat)(s1 s2:Nat->bM):Nat->bM:=λx=>if x∈wr then s1 x else s2 x
abbrev vK(A:Type):=(J:Type)->(Nat->bM)->(A->(Nat->bM)->FP->Option J)->Option J
structure Loc {A:Type} (T:vK A) (st:Nat->bM) (a:A) (st':Nat->bM) (fp:FP):Prop where
 nO:∀ x,x ∉ fp.wr->st' x=st x
 run:∀ cm,(∀ x∈fp.rd,cm x=st x)->∀ J k2,T J cm k2=k2 a (merge fp.wr st' cm) fp
structure az {A:Type} (T:vK A):Prop where
 go:∀ {O:Type} {st:Nat->bM} {k:A->(Nat->bM)->FP->Option O} {r:O},T O st k=Zz r->∃ a st' fp,k a st' fp=Zz r/\Loc T st a st' fp
structure GI where
 run:(O:Type)->Nat->List AV->(Nat->bM)->ml O->Option O
 loc:∀ kb args,az (λJ s k=>run J kb args s k)
structure Env where
 ty:Nat->Option TI
 jq:Nat->List jO
 own:Nat->Bool
 call:OD
 rF:Nat->Option (List AV)
 hand:List Nat
 kb:Nat
 inl:Nat->Option GI
section
variable {O:Type}
def AV.aw(kd:IntKind)(v:AV)(f:Int->Option O):Option O:=match v with | .int k n=>bif k==kd then f n else none | _=>none
def AV.qd(v:AV)(f:UInt8->Option O):Option O:=match v with | .u8 b=>f b | _=>none
def AV.dd(v:AV)(f:Bool->Option O):Option O:=match v with | .bool b=>f b | _=>none
def AV.pj(v:AV)(f:Bool->Option O)(s:Option O):Option O:=match v with | .bool b=>f b | .aQ []=>s | _=>none
def AV.Mj(v:AV)(f:Nat->List (Nat×Nat)->List (Nat×Nat)->Option O):Option O:=match v with | .fn n=>f n [] [] | .C4 n a b=>f n a b | _=>none
def Qs:List AV->Option (List (Nat×Nat))
 | []=>Zz []
 | .ptr k o::r=>(Qs r).map ((k,o) :: ·)
 | _=>none
def mw(l:List (Nat×Nat)):List AV:=l.map λx => .ptr x.1 x.2
def AV.fK(v:AV)(f:List UInt8->Option O):Option O:=match v with | .str s=>f s | _=>none
def AV.cS(v:AV)(f:List UInt8->Option O):Option O:=match v with | .bs l=>f l | _=>none
def AV.fR(sz:Nat)(v:AV)(f:List AV->Option O):Option O:=match v with | .sl z l=>bif Zy z sz then f l else none | _=>none
def AV.cR(v:AV)(f:List AV->Option O):Option O:=match v with | .agg l=>f l | _=>none
def AV.gx(v:AV)(f:List AV->Option O):Option O:=match v with | .aQ l=>f l | _=>none
def AV.fJ(v:AV)(f:List UInt8->Option O):Option O:=match v with | .bY l=>f l | _=>none
def AV.aX(v:AV)(f:List AV->Option O):Option O:=match v with | .aH l=>f l | _=>none
def aA(l:List AV)(f:AV->List AV->Option O):Option O:=match l with | x::r=>f x r | []=>none
def ak(l:List AV)(f:Option O):Option O:=match l with | []=>f | _::_=>none
def aB(b:Bool)(f:Option O):Option O:=cond b f none
def aE(b:Bool)(f g:Option O):Option O:=cond b f g
def aD(l:List (List AV))(f:Option O):Option O:=match l with | []=>f | _::_=>none
def aC(l:List (List AV))(f:List AV->List (List AV)->Option O):Option O:=match l with | x::r=>f x r | []=>none
end
def eT:List CT->List AV->Bool
 | [],[]=>Zn
 | .int k::cs,.int k' _::vs=>k==k'&&eT cs vs
 | .u8::cs,.u8 _::vs=>eT cs vs
 | .bool::cs,.bool _::vs=>eT cs vs
 | .str::cs,.str _::vs=>eT cs vs
 | _,_=>Zv
def AV.cells:AV->List AV
 | .agg cs=>cs
 | v=>[v]
def AV.ef:AV->Bool
 | .int .. | .u8 _ | .bool _ | .str _ | .bs _ | .sl .. | .dq | .row _ | .ptr .. | .kQ .. | .k_ _ | .nL | .bP .. | .rW .. | .pre .. | .GF .. | .fn _ | .C4 .. | .FV | .mp _ | .ym | .bR .. => Zn
 | _=>Zv
def oL(k:IntKind)(n:Int):AV:=match k with | .u8 => .u8 (UInt8.ofNat n.toNat) | k => .int k n
def F0:Value->Option AV
 | .bool b=>Zz (.bool b)
 | .int k n=>match k with
  | .u8=>bif Zw (0<=n)&&Zw (n<256) then Zz (.u8 (UInt8.ofNat n.toNat)) else none
  | k=>Zz (.int k n)
 | .string s=>Zz (.str s.data.toList)
 | .slice none 0 0=>Zz .dq
 | .pointer none=>Zz .nL
 | .map none=>Zz .FV
 | .nilFunc=>Zz .ym
 | _=>none
def ph:List Value->Option (List AV)
 | []=>Zz []
 | v::r=>match F0 v,ph r with | some a,Zz l=>Zz (a::l) | _,_=>none
def Qi(v:Value):Option AV :=
 match v with
 | .agg cs=>(ph cs.toList).map .agg
 | v=>F0 v
def ng:AV->AV->Bool
 | .int a n,.int b m=>(a==b)&&(n==m)
 | .str a,.str b=>a==b
 | _,_=>Zv
def gH:AV->AV
 | .aQ (k::_)=>k
 | _ => .undef
def uo:AV->AV
 | .aQ [_,v]=>v
 | _ => .undef
def _root_.Kerb.pV(x:AV):List AV->Option AV
 | []=>none
 | e::r=>bif ng (gH e) x then Zz (uo e) else Kerb.pV x r
def _root_.Kerb.isM(x:AV)(l:List AV):Bool:=(Kerb.pV x l).isSome
def _root_.Kerb.getM(x:AV)(l:List AV)(d:AV):AV:=(Kerb.pV x l).getD d
def _root_.Kerb.po(x v:AV):List AV->List AV
 | []=>[.aQ [x,v]]
 | e::r=>bif ng (gH e) x then .aQ [x,v]::r else e::Kerb.po x v r
def qJ(str:Bool)(kd:IntKind)(v:AV):Bool:=match v with
 | .int k _ => !str&&k==kd
 | .str _=>str
 | _=>Zv
def yb(i:TI):Option (Bool×IntKind):=match i.kind with
 | .int k=>Zz (Zv,k)
 | .str=>Zz (Zn,AI)
 | _=>none
section ops
variable {O:Type} (E:Env)
def gK(c:CT)(v:AV)(k:AV->Option O):Option O :=
 match c with
 | .int kd=>v.aw kd λn=>k (.int kd n)
 | .u8=>v.qd λb=>k (.u8 b)
 | .bool=>v.dd λb=>k (.bool b)
 | .str=>v.fK λb=>k (.str b)
 | .eV=>v.cS λb=>k (.bs b)
 | .sl z=>v.fR z λb=>k (.sl z b)
 | _=>none
def n_:List CT->List AV->(List AV->Option O)->Option O
 | [],l,k=>ak l (k [])
 | c::cs,l,k=>aA l λx r=>gK c x λx'=>n_ cs r λr'=>k (x'::r')
def dv:TK->Bool
 | .struct _ | .df .. => Zn
 | _=>Zv
def zeroV(i:TI):AV:=match dv i.kind with
 | true => .agg i.zero
 | false=>i.zero.headD .undef
def norm(i:TI)(v:AV)(k:AV->Option O):Option O :=
 match dv i.kind with
 | true=>v.cR λcs=>n_ i.ie cs λjM=>k (.agg jM)
 | false=>match i.ie with
  | [c]=>gK c v k
  | _=>none
def cX{J:Type}(f:Nat->J)(k:Nat)(b:J):Nat->J:=λx=>bif Zy x k then b else f x
def B_(c:CT)(v:AV)(st:Nat->bM)(k:AV->(Nat->bM)->FP->Option O):Option O :=
 match c,v with
 | .eV,.dq=>k (.bs []) st .none
 | .sl z,.dq=>k (.sl z []) st .none
 | _,.row r=>match st r with
  | .fg e l _=>k (.bs l) (cX st r (.fg e l Zn)) ⟨[r],[r]⟩
  | .dG e z l _=>k (.sl z l) (cX st r (.dG e z l Zn)) ⟨[r],[r]⟩
  | _=>none
 | _,.int kd n=>k (.int kd n) st .none
 | _,.u8 b=>k (.u8 b) st .none
 | _,.bool b=>k (.bool b) st .none
 | _,.str s=>k (.str s) st .none
 | _,.bs l=>k (.bs l) st .none
 | _,.sl z l=>k (.sl z l) st .none
 | _,.nL=>k .nL st .none
 | _,.k_ cs=>k (.k_ cs) st .none
 | _,_=>none
def FP.add(a b:FP):FP:=⟨a.rd++b.rd,a.wr++b.wr⟩
def nS:List CT->List AV->(Nat->bM)->(List AV->(Nat->bM)->FP->Option O)->Option O
 | [],[],st,k=>k [] st .none
 | c::cs,v::vs,st,k=>B_ c v st λa cM f1=>nS cs vs cM λl cm f2=>k (a::l) cm (f1.add f2)
 | _,_,_,_=>none
def out(i:TI)(v:AV)(st:Nat->bM)(k:AV->(Nat->bM)->FP->Option O):Option O :=
 match dv i.kind,v with
 | true,.agg cs=>nS i.ie cs st λl st' f=>k (.agg l) st' f
 | false,v=>match i.ie with
  | [c]=>B_ c v st k
  | _=>none
 | _,_=>none
def NK(i:TI)(v:AV)(st:Nat->bM)(k:AV->(Nat->bM)->FP->Option O):Option O :=
 match v with
 | .dq=>k .dq st .none
 | v=>out i v st k
def iQ(x y:AV)(k:IntKind->Int->Int->Option O):Option O :=
 match x,y with
 | .int a n,.int b m=>bif a==b then k a n m else none
 | .u8 n,.u8 m=>k .u8 n.toNat m.toNat
 | _,_=>none
def mP:AV->AV->Option Bool
 | .int a n,.int b m=>bif a==b then Zz (n==m) else none
 | .u8 n,.u8 m=>Zz (n==m)
 | .bool a,.bool b=>Zz (a==b)
 | .str a,.str b=>Zz (a==b)
 | _,_=>none
def OR(a b:Option Bool):Option Bool:=match a with
 | some x=>match b with
  | some y=>Zz (x&&y)
  | none=>none
 | none=>none
def dY:List AV->List AV->Option Bool
 | [],[]=>Zz Zn
 | [x],[y]=>mP x y
 | x::xs,y::ys=>OR (mP x y) (dY xs ys)
 | _,_=>none
def r_:AV->Option Int
 | .int _ n=>Zz n
 | .u8 b=>Zz b.toNat
 | _=>none
def nN(op:BinOp)(x y:AV):Option AV :=
 match op with
 | .shl=>match x,r_ y with
  | .int k n,Zz m=>aB (Zw (0<=m)) (Zz (.int k (k.wrap (n*2 ^ (min m.toNat k.bits)))))
  | .u8 n,Zz m=>aB (Zw (0<=m)) (Zz (oL .u8 (IntKind.u8.wrap ((n.toNat:Int)*2 ^ (min m.toNat 8)))))
  | _,_=>none
 | .shr=>match x,r_ y with
  | .int k n,Zz m=>aB (Zw (0<=m)) (Zz (.int k (n.fdiv (2 ^ (min m.toNat k.bits)))))
  | .u8 n,Zz m=>aB (Zw (0<=m)) (Zz (oL .u8 ((n.toNat:Int).fdiv (2 ^ (min m.toNat 8)))))
  | _,_=>none
 | .add=>match x,y with
  | .str a,.str b=>aB (Zw (a.length+b.length<=4611686018427387904)) (Zz (.str (a++b)))
  | x,y=>iQ x y λk n m=>Zz (oL k (k.wrap (n+m)))
 | .sub=>iQ x y λk n m=>Zz (oL k (k.wrap (n-m)))
 | .mul=>iQ x y λk n m=>Zz (oL k (k.wrap (n*m)))
 | .quo=>iQ x y λk n m=>aB (!(m==0)) (Zz (oL k (k.wrap (n.tdiv m))))
 | .rem=>iQ x y λk n m=>aB (!(m==0)) (Zz (oL k (n.tmod m)))
 | .and=>iQ x y λk n m=>Zz (oL k (k.wrap (BitVec.ofInt k.bits n &&& BitVec.ofInt k.bits m).toNat))
 | .or=>iQ x y λk n m=>Zz (oL k (k.wrap (BitVec.ofInt k.bits n ||| BitVec.ofInt k.bits m).toNat))
 | .xor=>iQ x y λk n m=>Zz (oL k (k.wrap (BitVec.ofInt k.bits n ^^^ BitVec.ofInt k.bits m).toNat))
 | .lss=>match x,y with
  | .str a,.str b=>Zz (.bool (Op.bytesLess a b))
  | x,y=>iQ x y λ_ n m=>Zz (.bool (Zw (n<m)))
 | .leq=>match x,y with
  | .str a,.str b=>Zz (.bool (Op.bytesLess a b||a==b))
  | x,y=>iQ x y λ_ n m=>Zz (.bool (Zw (n<=m)))
 | .gtr=>match x,y with
  | .str a,.str b=>Zz (.bool (!(Op.bytesLess a b||a==b)))
  | x,y=>iQ x y λ_ n m=>Zz (.bool (Zw (n>m)))
 | .geq=>match x,y with
  | .str a,.str b=>Zz (.bool !(Op.bytesLess a b))
  | x,y=>iQ x y λ_ n m=>Zz (.bool (Zw (n>=m)))
 | .eql=>match x,y with
  | .agg a,.agg b=>(dY a b).map .bool
  | x,y=>(mP x y).map .bool
 | .neq=>match x,y with
  | .agg a,.agg b=>(dY a b).map λc => .bool !c
  | x,y=>(mP x y).map λc => .bool !c
 | _=>none
def Bf(op:BinOp)(x y:AV):Option (Bool×AV) :=
 match op with
 | .shl=>match x,r_ y with
  | .int k n,Zz m=>Zz (Zw (0<=m),.int k (k.wrap (n*2 ^ (min m.toNat k.bits))))
  | .u8 n,Zz m=>Zz (Zw (0<=m),oL .u8 (IntKind.u8.wrap ((n.toNat:Int)*2 ^ (min m.toNat 8))))
  | _,_=>none
 | .shr=>match x,r_ y with
  | .int k n,Zz m=>Zz (Zw (0<=m),.int k (n.fdiv (2 ^ (min m.toNat k.bits))))
  | .u8 n,Zz m=>Zz (Zw (0<=m),oL .u8 ((n.toNat:Int).fdiv (2 ^ (min m.toNat 8))))
  | _,_=>none
 | .add=>match x,y with
  | .str a,.str b=>Zz (Zw (a.length+b.length<=4611686018427387904),.str (a++b))
  | x,y=>(nN .add x y).map λv=>(Zn,v)
 | .quo=>iQ x y λk n m=>Zz (!(m==0),oL k (k.wrap (n.tdiv m)))
 | .rem=>iQ x y λk n m=>Zz (!(m==0),oL k (n.tmod m))
 | op=>(nN op x y).map λv=>(Zn,v)
def mm2(mx:Bool)(x y:AV):Option AV :=
 match x,y with
 | .int a n,.int b m=>bif a==b then Zz (.int a (match mx with | true=>Kerb.imax n m | false=>Kerb.FE n m)) else none
 | _,_=>none
def B4(mx:Bool):AV->List AV->Option AV
 | x,[]=>match x with
  | .int k n=>Zz (.int k n)
  | _=>none
 | x,y::r=>(mm2 mx x y).bind λz=>B4 mx z r
def Qc(mx:Bool):List AV->Option AV
 | []=>none
 | x::r=>B4 mx x r
def U0(op:UnOp)(x:AV):Option AV :=
 match op,x with
 | .not,.bool b=>Zz (.bool !b)
 | .neg,.int k n=>Zz (.int k (k.wrap (0-n)))
 | _,_=>none
def bytesOf(st:Nat->bM)(v:AV)(k:List UInt8->FP->Option O):Option O :=
 match v with
 | .bs l=>k l .none
 | .dq=>k [] .none
 | .row r=>match st r with
  | .fg _ l _=>k l ⟨[r],[]⟩
  | _=>none
 | _=>none
def xI(sz:Nat)(st:Nat->bM)(v:AV)(k:List AV->FP->Option O):Option O :=
 match v with
 | .sl z l=>bif Zy z sz then k l .none else none
 | .dq=>k [] .none
 | .row r=>match st r with
  | .dG _ z l _=>bif Zy z sz then k l ⟨[r],[]⟩ else none
  | _=>none
 | _=>none
def lenOf(st:Nat->bM)(v:AV)(k:Nat->FP->Option O):Option O :=
 match v with
 | .bs l=>k l.length .none
 | .sl _ l=>k l.length .none
 | .dq=>k 0 .none
 | .bP _ iM=>k iM.length .none
 | .row r=>match st r with
  | .fg _ l _=>k l.length ⟨[r],[]⟩
  | .dG _ _ l _=>k l.length ⟨[r],[]⟩
  | _=>none
 | .bR r _ _=>match st r with
  | .jh _ _ l=>k l.length ⟨[r],[]⟩
  | _=>none
 | _=>none
def Sj:List AV->Option (List UInt8)
 | []=>Zz []
 | .u8 b::r=>(Sj r).map (b :: ·)
 | _=>none
def place(cs:List AV)(off:Nat)(news:List AV):List AV:=cs.take off++news++cs.drop (off+news.length)
def sW:List AV->Nat->List AV->List AV
 | [],_,_=>[]
 | c::cs,0,n=>match n with
  | []=>c::cs
  | x::r=>x::sW cs 0 r
 | c::cs,k+1,n=>c::sW cs k n
def fill(iM:Nat->Option (Nat×Nat)):List (Nat×AV)->List AV->Option (List AV)
 | [],cs=>Zz cs
 | (i,v)::r,cs=>match iM i with
  | some q=>bif v.cells.length==q.2&&Zh (q.1+q.2) cs.length&&v.cells.all AV.ef then fill iM r (sW cs q.1 v.cells) else none
  | none=>none
end ops
def c4(E:Env)(fr:Fr):Operand->Option AV
 | .tmp t=>Zz (fr.aS t)
 | .const v=>Qi v
 | .global g=>(E.rF g).map .k_
 | .func f=>Zz (.fn f)
def gD(E:Env)(fr:Fr):List Operand->Option (List AV)
 | []=>Zz []
 | x::r=>match c4 E fr x,gD E fr r with | some a,Zz l=>Zz (a::l) | _,_=>none
def iz(E:Env)(fr:Fr):List (Nat×Operand)->Option (List (Nat×AV))
 | []=>Zz []
 | (i,x)::r=>match c4 E fr x,iz E fr r with | some a,Zz l=>Zz ((i,a)::l) | _,_=>none
section step
variable {O:Type} (E:Env) (fr:Fr)
def iR(t:Nat)(b:bM)(v:AV)(k:ml O):Option O :=
 match fr.st t with
 | .free=>k v (cX fr.st t b) ⟨[t],[t]⟩
 | _=>none
def loadCells(i:TI)(cs:List AV)(k:AV->Option O):Option O :=
 bif Zh i.size cs.length then
  match dv i.kind with
  | true=>k (.agg (cs.take i.size))
  | false=>match cs with
   | c::_=>k c
   | []=>none
 else none
def kP(i:TI)(a:AV)(k:ml O):Option O :=
 match a with
 | .ptr b off=>match fr.st b with
  | .cells cs=>loadCells i (cs.drop off) λv=>k v fr.st ⟨[b],[]⟩
  | _=>none
 | .k_ cs=>loadCells i cs λv=>k v fr.st .none
 | .rW b off=>match i.kind with
  | .ptr _=>aB (Zy i.size 1) (k (.ptr b off) fr.st .none)
  | _=>none
 | .kQ b j sz off=>match fr.st b with
  | .fg _ l _=>aB (Zk j l.length&&Zy off 0&&Zy sz 1 && !dv i.kind) (k (.u8 (l.getD j 0)) fr.st ⟨[b],[]⟩)
  | .jx l _=>aB (Zk j l.length&&Zy off 0&&Zy sz 1 && !dv i.kind) (k (.u8 (l.getD j 0)) fr.st ⟨[b],[]⟩)
  | .dG e z l _=>match E.ty e with
   | some ei=>aB (Zk j l.length&&Zy z sz) (norm ei (l.getD j .undef) λv=>loadCells i (v.cells.drop off) λv=>k v fr.st ⟨[b],[]⟩)
   | none=>none
  | .jh e z l=>match E.ty e with
   | some ei=>aB (Zk j l.length&&Zy z sz) (norm ei (l.getD j .undef) λv=>loadCells i (v.cells.drop off) λv=>k v fr.st ⟨[b],[]⟩)
   | none=>none
  | _=>none
 | _=>none
def tz(ei:TI)(old:AV)(off:Nat)(news:List AV):AV:=match dv ei.kind with
 | true => .agg (place old.cells off news)
 | false=>news.headD .undef
def ot(i:TI)(a v:AV)(k:ml O):Option O :=
 match a with
 | .ptr b off=>match fr.st b with
  | .cells cs=>bif v.cells.length==i.size&&Zh (off+i.size) cs.length&&v.cells.all AV.ef then k .undef (cX fr.st b (.cells (sW cs off v.cells))) ⟨[b],[b]⟩ else none
  | _=>none
 | .kQ b j sz off=>match fr.st b with
  | .fg e l iO=>v.qd λx=>aB (Zk j l.length&&Zy off 0&&Zy sz 1&&Zy i.size 1 && !iO) (k .undef (cX fr.st b (.fg e (l.set j x) Zv)) ⟨[b],[b]⟩)
  | .jx l iO=>v.qd λx=>aB (Zk j l.length&&Zy off 0&&Zy sz 1&&Zy i.size 1 && !iO) (k .undef (cX fr.st b (.jx (l.set j x) Zv)) ⟨[b],[b]⟩)
  | .dG e z l iO=>match E.ty e with
   | some ei=>aB (Zk j l.length&&Zy z sz && !iO) (out i v fr.st λv' cM f1=>match cM b with
    | .dG e1 z1 l1 Zv=>norm ei (l1.getD j .undef) λold =>
      aB (v'.cells.length==i.size&&Zh (off+i.size) old.cells.length&&Zk 0 i.size&&Zy z1 z&&Zk j l1.length)
       (k .undef (cX cM b (.dG e1 z1 (l1.set j (tz ei old off v'.cells)) Zv)) (f1.add ⟨[b],[b]⟩))
    | _=>none)
   | none=>none
  | .jh e z l=>match E.ty e with
   | some ei=>aB (Zk j l.length&&Zy z sz) (out i v fr.st λv' cM f1=>match cM b with
    | .jh e1 z1 l1=>norm ei (l1.getD j .undef) λold =>
      aB (v'.cells.length==i.size&&Zh (off+i.size) old.cells.length&&Zk 0 i.size&&Zy z1 z&&Zk j l1.length)
       (k .undef (cX cM b (.jh e1 z1 (l1.set j (tz ei old off v'.cells)))) (f1.add ⟨[b],[b]⟩))
    | _=>none)
   | none=>none
  | _=>none
 | _=>none
def oE(q:Nat)(v:AV)(k:ml O):Option O :=
 match v with
 | .ptr b off=>k (.ptr b (off+q)) fr.st .none
 | .k_ cs=>k (.k_ (cs.drop q)) fr.st .none
 | .kQ b j sz off=>k (.kQ b j sz (off+q)) fr.st .none
 | _=>none
def sI(i:TI)(f:Nat):Option (Nat×Nat):=match i.kind with | .struct fs=>fs[f]? | _=>none
def Cf:List Nat->Nat->(Nat->Option O)->Option O
 | [],_,_=>none
 | o::r,n,f=>aE (Zy n 0) (f o) (Cf r (n-1) f)
def idx(v:AV):Option Int:=match v with | .int _ n=>Zz n | .u8 b=>Zz b.toNat | _=>none
def fB(i:TI)(x ix:AV)(k:ml O):Option O :=
 match i.kind,x,idx ix with
 | .slice e Zn,x,Zz n=>match x with
  | .bs l=>aB (Zw (0<=n)&&Zw (n<l.length)) (k (.k_ [.u8 (l.getD n.toNat 0)]) fr.st .none)
  | .row r=>match fr.st r with
   | .fg _ l _=>aB (Zw (0<=n)&&Zw (n<l.length)) (k (.kQ r n.toNat 1 0) fr.st ⟨[r],[]⟩)
   | _=>none
  | _=>none
 | .slice e Zv,x,Zz n=>match E.ty e with
  | some ei=>match x with
   | .sl z l=>aB (Zw (0<=n)&&Zw (n<l.length)&&Zy z ei.size) (norm ei (l.getD n.toNat .undef) λv=>k (.k_ v.cells) fr.st .none)
   | .bP b iM=>aB (Zw (0<=n)&&Zw (n<iM.length)&&Zy ei.size 1) (Cf iM n.toNat λo=>k (.rW b o) fr.st .none)
   | .row r=>match fr.st r with
    | .dG _ z l _=>aB (Zw (0<=n)&&Zw (n<l.length)&&Zy z ei.size) (k (.kQ r n.toNat z 0) fr.st ⟨[r],[]⟩)
    | _=>none
   | .bR r _ _=>match fr.st r with
    | .jh _ z l=>aB (Zw (0<=n)&&Zw (n<l.length)&&Zy z ei.size) (k (.kQ r n.toNat z 0) fr.st ⟨[r],[]⟩)
    | _=>none
   | _=>none
  | none=>none
 | .df len e Zn,.ptr b 0,Zz n=>match fr.st b with
  | .jx l _=>aB (Zw (0<=n)&&Zw (n<l.length)&&Zy l.length len&&Zk 1 len) (k (.kQ b n.toNat 1 0) fr.st ⟨[b],[]⟩)
  | _=>none
 | .df len e Zv,.ptr b off,Zz n=>match E.ty e with
  | some ei=>aB (Zw (0<=n)&&Zw (n<(len:Int))&&Zk 1 len) (k (.ptr b (off+n.toNat*ei.size)) fr.st .none)
  | none=>none
 | .df len e Zv,.k_ cs,Zz n=>match E.ty e with
  | some ei=>aB (Zw (0<=n)&&Zw (n<(len:Int))&&Zk 1 len&&Zy ei.size 1&&Zh len cs.length) (norm ei (cs.getD n.toNat .undef) λv=>k (.k_ [v]) fr.st .none)
  | none=>none
 | _,_,_=>none
def xH(i:TI)(x ix:AV)(k:ml O):Option O :=
 match i.kind,x,idx ix with
 | .str,.str l,Zz n=>aB (Zw (0<=n)&&Zw (n<l.length)) (k (.u8 (l.getD n.toNat 0)) fr.st .none)
 | _,_,_=>none
def tU(v:Option AV)(d:Nat):Option Int:=match v with | none=>Zz (d:Int) | some v=>idx v
def vo(i:TI)(x:AV)(lo hi mx:Option AV)(k:ml O):Option O :=
 match mx with
 | some _=>none
 | none=>match i.kind with
  | .str=>x.fK λl=>match tU lo 0,tU hi l.length with
   | some a,Zz b=>aB (Zw (0<=a)&&Zw (a<=b)&&Zw (b<=l.length)) (k (.str ((l.take b.toNat).drop a.toNat)) fr.st .none)
   | _,_=>none
  | .slice e Zn=>B_ .eV x fr.st λv st fp=>v.cS λl=>match tU lo 0,tU hi l.length with
   | some a,Zz b=>aB (Zw (0<=a)&&Zw (a<=b)&&Zw (b<=l.length)) (k (.bs ((l.take b.toNat).drop a.toNat)) st fp)
   | _,_=>none
  | .slice e Zv=>match E.ty e with
   | some ei=>B_ (.sl ei.size) x fr.st λv st fp=>v.fR ei.size λl=>match tU lo 0,tU hi l.length with
    | some a,Zz b=>aB (Zw (0<=a)&&Zw (a<=b)&&Zw (b<=l.length)) (k (.sl ei.size ((l.take b.toNat).drop a.toNat)) st fp)
    | _,_=>none
   | none=>none
  | .df n e Zn=>match x with
   | .ptr b 0=>match fr.st b with
    | .jx l _=>match tU lo 0,tU hi l.length with
     | some a,Zz c=>aB (Zw (0<=a)&&Zw (a<=c)&&Zw (c<=l.length)&&Zy l.length n) (k (.bs ((l.take c.toNat).drop a.toNat)) (cX fr.st b (.jx l Zn)) ⟨[b],[b]⟩)
     | _,_=>none
    | _=>none
   | _=>none
  | _=>none
def uh(i:TI)(x:AV)(lo:Option AV)(hi m:AV)(k:ml O):Option O :=
 match i.kind with
 | .slice e Zn=>B_ .eV x fr.st λv st fp=>v.cS λl=>match tU lo 0,idx hi,idx m with
  | some a,Zz b,Zz c=>aB (Zw (0<=a)&&Zw (a<=b)&&Zw (b<=c)&&Zw (c<=l.length)) (k (.bs ((l.take b.toNat).drop a.toNat)) st fp)
  | _,_,_=>none
 | .slice e Zv=>match E.ty e,lo,idx hi,idx m with
  | some _,none,Zz b,Zz c=>aB (b==0&&c==0) (match x with
   | .sl _ _=>k .dq fr.st .none
   | .dq=>k .dq fr.st .none
   | .row _=>k .dq fr.st .none
   | _=>none)
  | _,_,_,_=>none
 | _=>none
def uj(i:TI)(x:AV)(lo hi:Option AV)(k:ml O):Option O :=
 match i.kind,x with
 | .slice _ Zn,.row r=>match fr.st r with
  | .fg _ l p=>match lo,hi with
   | none,Zz h=>match idx h with
    | some b=>aB (Zw (0<=b)&&Zw (b<=l.length)&&Zk 0 l.length && !p) (k (.pre r b.toNat) fr.st ⟨[r],[]⟩)
    | none=>none
   | some a,none=>match idx a with
    | some a=>aB (Zw (0<=a)&&Zw (a<=l.length)&&Zk 0 l.length && !p) (k (.GF r a.toNat) fr.st ⟨[r],[]⟩)
    | none=>none
   | _,_=>none
  | _=>none
 | _,_=>none
def rC(t:Nat)(ki:TI)(k:ml O):Option O :=
 match yb ki with
 | some q=>iR fr t (.oK q.1 q.2 []) (.mp t) k
 | none=>none
def pU(ki ei:TI)(m q:AV)(ok:Bool)(k:ml O):Option O :=
 match m with
 | .mp b=>match fr.st b with
  | .oK s kd els=>match yb ki with
   | some z=>aB ((z.1==s)&&(z.2==kd)&&qJ s kd q) (norm ei (Kerb.getM q els (zeroV ei)) λv=>match ok with
    | true=>k (.aQ [v,.bool (Kerb.isM q els)]) fr.st ⟨[b],[]⟩
    | false=>k v fr.st ⟨[b],[]⟩)
   | none=>none
  | _=>none
 | _=>none
def rD(ki ei:TI)(m q x:AV)(k:ml O):Option O :=
 match m with
 | .mp b=>match fr.st b with
  | .oK s kd els=>match yb ki with
   | some z=>aB ((z.1==s)&&(z.2==kd)&&qJ s kd q) (out ei x fr.st λv cM f1=>match cM b with
    | .oK s1 V4 Fi=>aB ((s1==s)&&(V4==kd)) (k .undef (cX cM b (.oK s kd (Kerb.po q v Fi))) (f1.add ⟨[b],[b]⟩))
    | _=>none)
   | none=>none
  | _=>none
 | _=>none
def rB(s d:TI)(x:AV)(k:ml O):Option O :=
 match d.kind with
 | .int kd=>match idx x with
  | some n=>k (.int kd (kd.wrap n)) fr.st .none
  | none=>none
 | .u8=>match idx x with
  | some n=>k (oL .u8 (IntKind.u8.wrap n)) fr.st .none
  | none=>none
 | .str=>match s.kind with
  | .str=>x.fK λl=>k (.str l) fr.st .none
  | .slice _ Zn=>bytesOf fr.st x λl fp=>k (.str l) fr.st fp
  | _=>none
 | .slice _ Zn=>match s.kind with
  | .str=>x.fK λl=>k (.bs l) fr.st .none
  | _=>none
 | _=>none
def room(n bytes:Nat):Bool:=Zh (n*bytes) 140737488355328&&Zh n 140737488355328
def E3(t e:Nat)(s:AV)(new:List UInt8)(fp:FP)(k:ml O):Option O :=
 match s with
 | .dq=>aB (room new.length 1) (k (.row t) (cX fr.st t (.fg e new Zv)) ⟨t::fp.rd,[t]⟩)
 | .row r=>match fr.st r with
  | .fg e' l p=>aB (Zy e e'&&room (l.length+new.length) 1) (k (.row t) (cX (cX fr.st r .dead) t (.fg e (l++new) p)) ⟨t::r::fp.rd,[t,r]⟩)
  | _=>none
 | _=>none
def JY(t e:Nat)(ei:TI)(s:AV)(new:List AV)(fp:FP)(k:ml O):Option O :=
 match s with
 | .dq=>aB (Zk 0 ei.size&&room new.length ei.bytes) (k (.row t) (cX fr.st t (.dG e ei.size new Zv)) ⟨t::fp.rd,[t]⟩)
 | .row r=>match fr.st r with
  | .dG e' z l p=>aB (Zy e e'&&Zy z ei.size&&room (l.length+new.length) ei.bytes) (k (.row t) (cX (cX fr.st r .dead) t (.dG e ei.size (l++new) p)) ⟨t::r::fp.rd,[t,r]⟩)
  | _=>none
 | _=>none
def MC(t e:Nat)(s:AV)(r m:Nat)(k:ml O):Option O :=
 match s with
 | .pre r' n=>match fr.st r with
  | .fg e' l p=>aB (Zk 0 l.length&&Zy r r'&&Zy e e' && !p&&room (n+(l.length-m)) 1) (k (.row t) (cX (cX fr.st r .dead) t (.fg e (l.take n++l.drop m) Zv)) ⟨[t,r],[t,r]⟩)
  | _=>none
 | _=>none
def kN(t:Nat)(i:TI)(s x:AV)(k:ml O):Option O :=
 match fr.st t with
 | .free=>match i.kind with
  | .slice e Zn=>match x with
   | .str l=>E3 fr t e s l .none k
   | .GF r m=>MC fr t e s r m k
   | x=>bytesOf fr.st x λnew fp=>E3 fr t e s new fp k
  | .slice e Zv=>match E.ty e with
   | none=>none
   | some ei=>xI ei.size fr.st x λnew fp=>JY fr t e ei s new fp k
  | _=>none
 | _=>none
def oN(ei:TI):List (Nat×AV)->(Nat->bM)->(List (Nat×AV)->(Nat->bM)->FP->Option O)->Option O
 | [],st,k=>k [] st .none
 | (i,v)::r,st,k=>out ei v st λa cM f1=>oN ei r cM λl cm f2=>k ((i,a)::l) cm (f1.add f2)
def gW:Nat->List (Nat×AV)->Option (List AV)
 | _,[]=>Zz []
 | j,(i,v)::r=>bif Zy i j then(gW (j+1) r).map (v :: ·) else none
def Fw:List (Nat×AV)->Option Nat
 | (_,.ptr k _)::_=>Zz k
 | _=>none
def zE(b:Nat):Nat->List (Nat×AV)->Option (List Nat)
 | _,[]=>Zz []
 | j,(i,.ptr k off)::r=>bif Zy i j&&Zy k b then(zE b (j+1) r).map (off :: ·) else none
 | _,_=>none
def Bg(t:Nat)(i:TI)(l c:AV)(k:ml O):Option O :=
 match i.kind,idx l,idx c with
 | .slice e Zn,Zz n,Zz m=>aB (Zw (0<=n)&&Zw (n<=m)&&Zw (m<=140737488355328)) (iR fr t (.fg e (List.replicate n.toNat 0) Zv) (.row t) k)
 | _,_,_=>none
def pT(d:Nat)(i:TI)(len:Nat)(parts:List (Nat×AV))(k:ml O):Option O :=
 match i.kind with
 | .slice e Zn=>match gW 0 parts with
  | some els=>match Sj els with
   | some l=>bif Zy parts.length len&&Zh len 16777216&&Zk 0 len then iR fr d (.fg e l Zv) (.row d) k else none
   | none=>none
  | none=>none
 | .slice e Zv=>match E.ty e,gW 0 parts with
  | some ei,Zz _=>bif Zy parts.length len&&Zh (len*ei.size) 16777216&&Zk 0 ei.size&&Zk 0 len then oN ei parts fr.st λps st fp =>
    match gW 0 ps with
    | some els=>bif els.all (λx=>Zy x.cells.length ei.size) then iR ⟨fr.aS,st⟩ d (.dG e ei.size els Zv) (.row d) λv cm f2=>k v cm (fp.add f2) else none
    | none=>none
   else none
  | _,_=>none
 | _=>none
def mT(i:TI)(len:Nat)(parts:List (Nat×AV))(k:ml O):Option O :=
  match i.kind with
  | .slice e byte=>match len with
    | 0=>match parts,E.ty e with
      | [],Zz _=>k .dq fr.st .none
      | _,_=>none
    | _+1=>match Fw parts with
     | some b=>match byte,E.ty e,zE b 0 parts with
      | false,Zz ei,Zz iM=>bif Zy parts.length len&&Zy ei.size 1&&Zh len 16777216 then k (.bP b iM) fr.st .none else none
      | _,_,_=>none
     | none=>match E.ty e,gW 0 parts with
      | some ei,Zz _=>bif Zy parts.length len&&Zh (len*ei.size) 16777216&&Zk 0 ei.size then oN ei parts fr.st λps st fp =>
          match gW 0 ps with
          | some els=>match byte with
            | true=>match Sj els with
              | some l=>k (.bs l) st fp
              | none=>none
            | false=>bif els.all (λx=>Zy x.cells.length ei.size) then k (.sl ei.size els) st fp else none
          | none=>none
        else none
      | _,_=>none
  | _=>none
def XW(ty:Nat):Option TI:=match E.ty ty with
 | some i=>match i.kind with
  | .ptr e=>E.ty e
  | _=>Zz i
 | none=>none
def eX(f:Nat):Nat->List Nat->List AV->(Nat->bM)->(List AV->List (Nat×Nat×List AV)->(Nat->bM)->FP->Option O)->Option O
 | _,[],[],st,k=>k [] [] st .none
 | j,ty::lj,v::vs,st,k=>match v with
  | .ptr b off=>match st b with
   | .cells cs=>match XW E ty with
    | some ei=>bif off==0&&ei.size==cs.length then nS ei.ie cs st λjM cM f1 =>
      eX f (j+1) lj vs cM λl bl cm f2=>bif bl.any (λx=>x.2.1==b) then none else k (.ptr j 0::l) ((j,b,jM)::bl) cm (FP.add ⟨b::f1.rd,b::f1.wr⟩ f2)
     else none
    | none=>none
   | _=>none
  | .bR r e z=>eX f (j+1) lj vs st λl bl cm f2=>match cm r with
   | .jh e' z' els=>bif Zy e e'&&Zy z z' && !bl.any (λx=>x.2.1==r) then k (.bR j e z::l) ((j,r,els)::bl) cm (FP.add ⟨[r],[r]⟩ f2) else none
   | _=>none
  | v=>match E.own (1000000+f*64+j) with
   | true=>match v with
    | .row r=>eX f (j+1) lj vs st λl bl cm f2=>match cm r with
     | .dG e z els Zv=>aB (Zk 0 els.length) (bif !bl.any (λx=>x.2.1==r) then k (.bR j e z::l) ((j,r,els)::bl) cm (FP.add ⟨[r],[r]⟩ f2) else none)
     | _=>none
    | _=>none
   | false=>match E.ty ty with
    | some i=>NK i v st λa cM f1=>eX f (j+1) lj vs cM λl bl cm f2=>k (a::l) bl cm (f1.add f2)
    | none=>none
 | _,_,_,_,_=>none
def Pd(ty:Nat->Option TI):Nat->Nat->List Nat
 | 0,t=>[t]
 | m+1,t=>match ty t with
  | some i=>match i.kind with
   | .struct fs=>fs.flatMap λf=>Pd ty m f.2
   | _=>[t]
  | none=>[t]
def aaB(ty:Nat->Option TI):List Nat->Nat->Option (Nat×Nat×TI)
 | [],_=>none
 | t::r,n=>match ty t with
  | some i=>match i.kind with
   | .slice e Zv=>match ty e with
    | some ei=>Zz (n,e,ei)
    | none=>none
   | _=>aaB ty r (n+1)
  | none=>none
def QN(ty:Nat->Option TI)(fs:List (Nat×Nat)):Option (Nat×Nat×TI):=aaB ty (fs.flatMap λf=>Pd ty 5 f.2) 0
def qM(t:Nat):Nat->List CT->List AV->(List AV->List AV->Option O)->Option O
 | 0,_::ie,v,k=>aA v λx r=>x.aX λl=>n_ ie r λr'=>k (.row t::r') l
 | j+1,c::ie,v,k=>aA v λx r=>gK c x λx'=>qM t j ie r λr' l=>k (x'::r') l
 | _,[],_,_=>none
def HS(fs:List (Nat×Nat))(t:Nat)(i:TI)(v:AV)(st:Nat->bM)(k:AV->(Nat->bM)->FP->Option O):Option O :=
 match QN E.ty fs with
 | some (j,e,ei)=>match st t with
  | .free=>v.cR λcs=>qM t j i.ie cs λjM l=>k (.agg jM) (cX st t (.dG e ei.size l Zv)) ⟨[t],[t]⟩
  | _=>none
 | none=>norm i v λv'=>k v' st .none
def tr(own:Bool)(t:Nat)(i:TI)(v:AV)(st:Nat->bM)(k:AV->(Nat->bM)->FP->Option O):Option O :=
 match own,i.kind with
 | true,.slice e Zn=>match st t with
  | .free=>v.fJ λl=>k (.row t) (cX st t (.fg e l Zv)) ⟨[t],[t]⟩
  | _=>none
 | true,.slice e Zv=>match st t,E.ty e with
  | .free,Zz ei=>v.aX λl=>k (.row t) (cX st t (.dG e ei.size l Zv)) ⟨[t],[t]⟩
  | _,_=>none
 | true,.struct fs=>HS E fs t i v st k
 | _,_=>norm i v λv'=>k v' st .none
def m9(own:Bool)(t:Nat):List Nat->List AV->(Nat->bM)->(List AV->(Nat->bM)->FP->Option O)->Option O
 | [],l,st,k=>ak l (k [] st .none)
 | ty::lj,l,st,k=>match E.ty ty with
  | some i=>aA l λv r=>tr E own t i v st λa cM f1=>m9 Zv (t+4096) lj r cM λl' cm f2=>k (a::l') cm (f1.add f2)
  | none=>none
def yo(o v:AV)(k:AV->Option O):Option O :=
 match o with
 | .int kd _=>v.aw kd λn=>k (.int kd n)
 | .u8 _=>v.qd λb=>k (.u8 b)
 | .bool _=>v.dd λb=>k (.bool b)
 | .str _=>v.fK λb=>k (.str b)
 | .bs _=>v.cS λb=>k (.bs b)
 | .sl z _=>v.fR z λb=>k (.sl z b)
 | _=>k v
def pA:List AV->List AV->(List AV->Option O)->Option O
 | [],l,k=>ak l (k [])
 | o::os,l,k=>aA l λx r=>yo o x λx'=>pA os r λr'=>k (x'::r')
def Cm:bM->List AV->bM
 | .dG e z _ p,cs => .dG e z cs p
 | .jh e z _,cs => .jh e z cs
 | _,cs => .cells cs
def isRow:bM->Bool
 | .dG .. => Zn
 | .jh .. => Zn
 | _=>Zv
def m7:List (Nat×Nat×List AV)->aO->(Nat->bM)->((Nat->bM)->Option O)->Option O
 | [],bs,st,k=>aD bs (k st)
 | (_,b,old)::r,bs,st,k=>aC bs λcs TW=>match isRow (st b) with
  | true=>m7 r TW (cX st b (Cm (st b) cs)) k
  | false=>pA old cs λjM=>m7 r TW (cX st b (Cm (st b) jM)) k
end step
def uf{O:Type}(E:Env)(fr:Fr)(rts:Nat->Option (List Nat))(t:Nat)(f:Nat)(UE:List Nat)(args:List AV)(k:ml O):Option O :=
 match rts f with
 | none=>none
 | some rt=>eX E f 0 UE args fr.st λas bl st fp =>
  (E.call f as (bl.map λx=>(x.1,x.2.2))).bind λr=>m7 bl r.2 st λcM =>
   match rt with
   | [ty]=>match E.ty ty with
    | some i=>tr E (E.own f) t i r.1 cM λv cm f2=>k v cm (fp.add f2)
    | none=>none
   | rt=>r.1.gx λvs=>m9 E (E.own f) t rt vs cM λl cm f2=>k (.aQ l) cm (fp.add f2)
end Go.Abs
/- The abstract interpreter: operations dispatched, regions, code, calls. -/
namespace Go.Abs
def eU{σ Z:Type}(step:σ->Option (σ ⊕ Z)):Nat->σ->Option Z
 | 0,_=>none
 | n+1,s=>match step s with
  | some (.inl s')=>eU step n s'
  | some (.inr r)=>Zz r
  | none=>none
open Classical in
noncomputable def bD{σ Z:Type}(step:σ->Option (σ ⊕ Z))(s:σ):Option Z :=
 if h:∃ n r,eU step n s=Zz r then Zz (Classical.choose (Classical.choose_spec h)) else none
def FF:bM->Bool
 | .free=>Zn
 | _=>Zv
def Bd:AV->List Nat
 | .row k=>[k]
 | .ptr k _=>[k]
 | .kQ k .. => [k]
 | .bP k _=>[k]
 | .rW k _=>[k]
 | .pre k _=>[k]
 | .GF k _=>[k]
 | .C4 _ fs cs=>fs.map (·.1)++cs.map (·.1)
 | .mp k=>[k]
 | .bR k .. => [k]
 | _=>[]
def OY:AV->List Nat
 | .agg cs=>cs.flatMap Bd
 | v=>Bd v
def xx:bM->List Nat
 | .cells cs=>cs.flatMap Bd
 | _=>[]
def reach(st:Nat->bM):Nat->List Nat->List Nat
 | 0,ks=>ks
 | m+1,ks=>ks++reach st m (ks.flatMap λk=>xx (st k))
theorem wY{s s2:Nat->bM}:∀ {m:Nat} {ks:List Nat},(∀ x∈reach s m ks,s2 x=s x)->reach s2 m ks=reach s m ks
 | 0,ks,h=>rfl
 | m+1,ks,h=>by
  simp only[reach,List.mem_append] at h ⊢;have e:(ks.flatMap λk=>xx (s2 k))=ks.flatMap λk=>xx (s k):=by
   have:∀ l:List Nat,(∀ x∈l,s2 x=s x)->(l.flatMap λk=>xx (s2 k))=l.flatMap λk=>xx (s k):=by
    intro l;induction l with
    | nil=>intro _;rfl
    | cons y l ih =>
     intro hl;rw[Zg,Zg,hl y (by simp),ih λx hx=>hl x (by simp[hx])]
   exact this ks λx hx=>h x (.inl hx)
  rw[e,wY λx hx=>h x (.inr hx)]
def fk(kb t:Nat):Nat:=match kb with
 | 0=>(t+1)*100000
 | m+1=>(m+1+t+1)*100000
def Mm:Nat->List Nat->Nat
 | b,[]=>b
 | b,[d]=>b+d
 | b,p::r=>Mm (fk b p) r
def rR(kb:Nat):List jO->List Nat
 | []=>[]
 | .bP t m ds::r=>(match m with
  | 0=>ds.map (fk kb t + ·)
  | 1=>[Mm (fk kb t) ds]
  | _=>(kb+t)::ds.map (kb + ·))++rR kb r
 | .ptr t u d::r=>(fk (fk kb t) u+d)::rR kb r
 | .val d _::r=>d::rR kb r
 | _::r=>rR kb r
def jR(st:Nat->bM)(vs:List AV)(kb:Nat)(hs:List jO):List Nat:=reach st 3 (vs.flatMap OY)++rR kb hs
def L_(c:CT)(v:AV):Bool:=match c,v with
 | .bool,.bool _=>Zn
 | .int k,.int k' _=>k==k'
 | _,_=>Zv
def BL(c:CT)(v:AV)(fp:FP)(A:List Nat)(st:Nat->bM):Bool:=L_ c v&&fp.rd.all (λx=>A.contains x)&&fp.wr.all λx=>A.contains x&&FF (st x)
def D9{O:Type}(run:GI)(c:CT)(hs:List jO)(kb:Nat)(vs:List AV)(st:Nat->bM)(k:ml O):Option O :=
 (run.run (List AV) kb vs st λv _ fp=>aB (BL c v fp (jR st vs kb hs) st) (Zz [v])).bind λl =>
  aA l λv r=>ak r (gK c v λv'=>k v' st ⟨jR st vs kb hs,[]⟩)
def Bb{O:Type}(h:List jO)(run:GI)(kb:Nat)(vs:List AV)(st:Nat->bM)(k:ml O):Option O :=
 match h with
 | .cells _ [c]::hs=>D9 run c hs kb vs st k
 | _=>run.run O kb vs st k
section
variable {O:Type} (E:Env) (rts:Nat->Option (List Nat))
def Hi(fr:Fr)(i:TI)(v:AV)(k:ml O):Option O :=
 match i.kind with
 | .str=>v.fK λl=>k (.int AI l.length) fr.st .none
 | .slice _ _=>lenOf fr.st v λn fp=>k (.int AI n) fr.st fp
 | _=>none
def Ff(i:TI)(op:BinOp)(a b:AV):Option AV :=
 match a with
 | .agg cs=>match i.Xc with
  | []=>none
  | c::r=>bif eT (c::r) cs&&dv i.kind then nN op a b else none
 | .bool _=>match i.kind with
  | .bool=>nN op a b
  | _=>none
 | .undef=>none
 | .aQ _=>none
 | a=>nN op a b
def Fg(i:TI)(op:BinOp)(a b:AV):Option (Bool×AV) :=
 match a with
 | .agg cs=>match i.Xc with
  | []=>none
  | c::r=>bif eT (c::r) cs&&dv i.kind then Bf op a b else none
 | .bool _=>match i.kind with
  | .bool=>Bf op a b
  | _=>none
 | .undef=>none
 | .aQ _=>none
 | a=>Bf op a b
def xG(i:TI)(fr:Fr)(parts:List (Nat×AV))(k:ml O):Option O :=
 match i.kind with
 | .struct fs=>match fill (λj=>(fs[j]?).bind λf=>(E.ty f.2).map λfi=>(f.1,fi.size)) parts i.zero with
  | some cs=>k (.agg cs) fr.st .none
  | none=>none
 | _=>none
def C3(d:Option Nat):Bool :=
 match d with
 | some t=>match E.jq (1000000+t) with
  | []=>Zv
  | _::_=>Zn
 | none=>Zv
def E9(f:Nat):List Nat:=(E.jq (7000000+f)).filterMap λ| .val _ ty=>Zz ty | _=>none
def ug(fr:Fr)(o:Oper)(k:ml O):Option O :=
 match o.op with
 | .move x=>(c4 E fr x).bind λv=>k v fr.st .none
 | .assign x=>(c4 E fr x).bind λv=>k v fr.st .none
 | .pick c a b=>(c4 E fr c).bind λv=>v.dd λt=>aE t ((c4 E fr a).bind λv=>k v fr.st .none) ((c4 E fr b).bind λv=>k v fr.st .none)
 | .alloc e=>(E.ty e).bind λi=>match o.dst with
  | some t=>match i.kind with
   | .df _ _ Zn=>(Sj i.zero).bind λl=>iR fr (E.kb+t) (.jx l Zv) (.ptr (E.kb+t) 0) k
   | _=>iR fr (E.kb+t) (.cells i.zero) (.ptr (E.kb+t) 0) k
  | none=>none
 | .box e x=>(E.ty e).bind λi=>(c4 E fr x).bind λv=>match o.dst with
  | some t=>bif v.cells.length==i.size&&v.cells.all AV.ef then iR fr (E.kb+t) (.cells v.cells) (.ptr (E.kb+t) 0) k else none
  | none=>none
 | .build t parts=>(E.ty t).bind λi=>(iz E fr parts.toList).bind λps=>xG E i fr ps k
 | .buildSlice t len parts=>(E.ty t).bind λi=>(iz E fr parts.toList).bind λps=>match C3 E o.dst,o.dst with
  | true,Zz d=>pT E fr (E.kb+d) i len ps k
  | _,_=>mT E fr i len ps k
 | .makeSlice t l c=>(E.ty t).bind λi=>(c4 E fr l).bind λn=>(c4 E fr c).bind λm=>match o.dst with
  | some d=>Bg fr (E.kb+d) i n m k
  | none=>none
 | .load t a=>(E.ty t).bind λi=>(c4 E fr a).bind λv=>kP E fr i v k
 | .store t a x=>(E.ty t).bind λi=>(c4 E fr a).bind λp=>(c4 E fr x).bind λv=>ot E fr i p v k
 | .nilCheck x=>(c4 E fr x).bind λv=>match v with
  | .ptr a b=>k (.ptr a b) fr.st .none
  | .k_ l=>k (.k_ l) fr.st .none
  | .kQ a b c d=>k (.kQ a b c d) fr.st .none
  | _=>none
 | .binOp op t x y _=>(E.ty t).bind λi=>(c4 E fr x).bind λa=>(c4 E fr y).bind λb=>(Fg i op a b).bind λx=>aB x.1 (k x.2 fr.st .none)
 | .unOp op _ x=>(c4 E fr x).bind λa=>(U0 op a).bind λv=>k v fr.st .none
 | .convert s d x=>(E.ty s).bind λsi=>(E.ty d).bind λdi=>(c4 E fr x).bind λv=>rB fr si di v k
 | .slice t x lo hi mx=>(E.ty t).bind λi=>(c4 E fr x).bind λv =>
   match lo.map (c4 E fr),hi.map (c4 E fr),mx.map (c4 E fr) with
   | some none,_,_=>none
   | _,Zz none,_=>none
   | _,_,Zz none=>none
   | a,Zz (Zz b),Zz (Zz m)=>uh E fr i v (a.bind id) b m k
   | _,none,Zz (Zz _)=>none
   | a,b,none=>match C3 E o.dst with
    | true=>uj fr i v (a.bind id) (b.bind id) k
    | false=>vo E fr i v (a.bind id) (b.bind id) none k
 | .fieldAddr t x f=>(E.ty t).bind λi=>(sI i f).bind λp=>(c4 E fr x).bind λv=>oE fr p.1 v k
 | .field t x f=>(E.ty t).bind λi=>(sI i f).bind λp=>(E.ty p.2).bind λfi=>(c4 E fr x).bind λv=>v.cR λcs=>loadCells fi (cs.drop p.1) λv=>k v fr.st .none
 | .indexAddr t x ix=>(E.ty t).bind λi=>(c4 E fr x).bind λv=>(c4 E fr ix).bind λn=>fB E fr i v n k
 | .index t x ix=>(E.ty t).bind λi=>(c4 E fr x).bind λv=>(c4 E fr ix).bind λn=>xH fr i v n k
 | .makeFunc fn fs cs=>match fn with
  | .func f=>(gD E fr fs.toList).bind λa=>(gD E fr cs.toList).bind λb=>(Qs a).bind λpa=>(Qs b).bind λpb=>k (.C4 f pa pb) fr.st .none
  | _=>none
 | .makeMap t r=>match r,o.dst with
  | none,Zz d=>(E.ty t).bind λi=>match i.kind with
   | .map kt _=>(E.ty kt).bind λki=>rC fr (E.kb+d) ki k
   | _=>none
  | _,_=>none
 | .lookup t x q ok=>(E.ty t).bind λi=>match i.kind with
  | .map kt et=>(E.ty kt).bind λki=>(E.ty et).bind λei=>(c4 E fr x).bind λm=>(c4 E fr q).bind λv=>pU fr ki ei m v ok k
  | _=>none
 | .mapUpdate t x q y=>(E.ty t).bind λi=>match i.kind with
  | .map kt et=>(E.ty kt).bind λki=>(E.ty et).bind λei=>(c4 E fr x).bind λm=>(c4 E fr q).bind λv=>(c4 E fr y).bind λz=>rD fr ki ei m v z k
  | _=>none
 | .extract x j=>(c4 E fr x).bind λv=>v.gx λvs=>match vs[j]? with
  | some v=>k v fr.st .none
  | none=>none
 | .call c=>match c.callee with
  | .builtin .len=>(gD E fr c.args.toList).bind λvs=>match vs,c.argTypes.toList with
   | [v],[ty]=>(E.ty ty).bind λi=>Hi fr i v k
   | _,_=>none
  | .builtin .append=>(gD E fr c.args.toList).bind λvs=>match vs,c.argTypes.toList,o.dst with
   | [s,x],[ty,tx],Zz t=>(E.ty ty).bind λi=>(E.ty tx).bind λxi=>match xi.kind with
    | .slice _ _=>kN E fr (E.kb+t) i s x k
    | .str=>kN E fr (E.kb+t) i s x k
    | _=>none
   | _,_,_=>none
  | .builtin .min=>(gD E fr c.args.toList).bind λvs=>(Qc Zv vs).bind λv=>k v fr.st .none
  | .builtin .max=>(gD E fr c.args.toList).bind λvs=>(Qc Zn vs).bind λv=>k v fr.st .none
  | .value (.func f)=>(gD E fr c.args.toList).bind λvs=>match o.dst with
   | some t=>match E.inl f with
    | some run=>Bb (E.jq (8000000+f)) run (fk E.kb t) vs fr.st k
    | none=>uf E fr rts (E.kb+t) f c.argTypes.toList vs k
   | none=>none
  | .value (.tmp s)=>(c4 E fr (.tmp s)).bind λv=>v.Mj λf fs cs=>(gD E fr c.args.toList).bind λvs=>match o.dst with
   | some t=>match E.inl f with
    | some run=>Bb (E.jq (8000000+f)) run (fk E.kb t) (mw fs++vs++mw cs) fr.st k
    | none=>uf E fr rts (E.kb+t) f ((E9 E f).take fs.length++c.argTypes.toList++(E9 E f).drop fs.length) (mw fs++vs++mw cs) k
   | none=>none
  | _=>none
 | _=>none
def dT(fr:Fr)(n:Nat)(d:Option Nat)(v:AV)(st:Nat->bM)(k:Fr->Option O):Option O :=
 match d with
 | some t=>bif Zk t n then k ⟨cX fr.aS t v,st⟩ else none
 | none=>k ⟨fr.aS,st⟩
def mA(ops:List Oper)(j:Nat):Option Nat:=(ops[j]?).bind (·.dst)
def fD(n:Nat)(all:List Oper):List Oper->Fr->(Fr->List FP->Option O)->Option O
 | [],fr,k=>k fr []
 | o::os,fr,k =>
  match o.guard with
  | none=>ug E rts fr o λv st fp=>dT fr n o.dst v st λbN=>fD n all os bN λdZ mV=>k dZ (fp::mV)
  | some (j,want)=>match mA all j with
   | none=>none
   | some g=>(fr.aS g).pj (λb =>
    aE b
     (match want with
      | true=>ug E rts ⟨cX fr.aS g (.bool Zn),fr.st⟩ o λv st fp=>dT ⟨cX fr.aS g (.bool Zn),fr.st⟩ n o.dst v st λbN=>fD n all os bN λdZ mV=>k dZ (fp::mV)
      | false=>dT ⟨cX fr.aS g (.bool Zn),fr.st⟩ n o.dst (.aQ []) fr.st λbN=>fD n all os bN λdZ mV=>k dZ (.none::mV))
     (match want with
      | false=>ug E rts ⟨cX fr.aS g (.bool Zv),fr.st⟩ o λv st fp=>dT ⟨cX fr.aS g (.bool Zv),fr.st⟩ n o.dst v st λbN=>fD n all os bN λdZ mV=>k dZ (fp::mV)
      | true=>dT ⟨cX fr.aS g (.bool Zv),fr.st⟩ n o.dst (.aQ []) fr.st λbN=>fD n all os bN λdZ mV=>k dZ (.none::mV)))
    (dT fr n o.dst (.aQ []) fr.st λbN=>fD n all os bN λdZ mV=>k dZ (.none::mV))
def ins(l:List Nat)(i:Nat):List Nat:=bif l.contains i then l else i::l
def AE(ops:List Oper):List (List Nat) :=
 ops.foldl (λacc o=>acc++[o.after.toList.foldl (λl e=>if Region.binds .any e then ins (((acc[e.on]?).getD []).foldl ins l) e.on else l) []]) []
def FP.apart(a b:FP):Bool:=a.wr.all (λx => !b.rd.contains x && !b.wr.contains x)&&b.wr.all (λx => !a.rd.contains x)
def slotsOf(o:Oper):List Nat:=o.op.operands.toList.filterMap λ| .tmp t=>Zz t | _=>none
def looks(ops:List Oper)(o:Oper):List Nat :=
 slotsOf o++(match o.guard with | some (g,_)=>(mA ops g).toList | none=>[])
def y_(ops:List Oper)(x y:Oper):Bool :=
 (match x.dst with | some d => !(looks ops y).contains d&&y.dst != Zz d | none=>Zn) &&
 (match y.dst with | some d => !(looks ops x).contains d | none=>Zn)
def D5(ops:List Oper)(bs:List (List Nat))(mV:List FP)(j:Nat)(oj:Oper)(fj:FP):Bool :=
 (List.range j).all λi=>((bs[j]?).getD []).contains i||(match ops[i]?,mV[i]? with
  | some oi,Zz fi=>y_ ops oi oj&&fi.apart fj
  | _,_=>Zv)
def X5(ops:List Oper):Bool:=(List.range ops.length).all λj=>match ops[j]? with
 | some o=>o.after.toList.all λe => !Region.binds .any e||Zk e.on j
 | none=>Zv
def indep(ops:List Oper)(mV:List FP):Bool :=
 let bs:=AE ops
 X5 ops&&(List.range ops.length).all λj=>match ops[j]?,mV[j]? with
  | some oj,Zz fj=>D5 ops bs mV j oj fj
  | _,_=>Zv
inductive Ex where
 | normal | ret | exit (id:Nat)
def Ex.TF{Z:Type}(e:Ex)(a:Z)(k:Ex->Z):Z:=match e with | .normal=>a | .ret=>k .ret | .exit j=>k (.exit j)
def Ex.ww{Z:Type}(id:Nat)(e:Ex)(k:Ex->Z):Z:=match e with | .normal=>k .normal | .ret=>k .ret | .exit j=>bif Zy j id then k .normal else k (.exit j)
def Ex.Ug{Z:Type}(e:Ex)(a:Option Z):Option Z:=match e with | .normal=>a | .ret=>none | .exit _=>none
def Ex.U1{Z:Type}(e:Ex)(a b:Z):Z:=match e with | .normal=>a | .ret=>a | .exit _=>b
def Ex.qb{σ:Type}(e:Ex)(s:σ):σ ⊕ (Ex×σ):=match e with | .normal => .inl s | .ret => .inr (.ret,s) | .exit j => .inr (.exit j,s)
def DS:List Nat->List Nat
 | []=>[]
 | x::r=>bif (DS r).contains x then DS r else x::DS r
def outs:Code->List Nat
 | .seq a b=>outs a++outs b
 | .cond _ a b=>outs a++outs b
 | .block id a=>(outs a).filter λj => !Zy j id
 | .loop a=>outs a
 | .exit id=>[id]
 | _=>[]
def jl{Z:Type}(e:Ex)(a:Option Z)(f:Nat->Option Z):Option Z:=match e with | .normal=>none | .ret=>a | .exit j=>f j
def vz{Z:Type}:List Nat->Nat->(Ex->Option Z)->Option Z
 | [],_,_=>none
 | i::is,j,k=>aE (Zy j i) (k (.exit i)) (vz is j k)
def Ex.out{Z:Type}(ids:List Nat)(e:Ex)(k:Ex->Option Z):Option Z:=jl e (k .ret) λj=>vz ids j k
theorem Ex.AS{Z:Type}{ids:List Nat}{e:Ex}{k:Ex->Option Z}{r:Z}(h:Ex.out ids e k=Zz r):k e=Zz r:=by
 unfold Ex.out jl at h;cases e with
 | normal=>cases h
 | ret=>exact h
 | exit j =>
  simp only at h;induction ids with
  | nil=>cases h
  | cons i is ih =>
   simp only[vz,aE] at h;cases hb:Zy j i with
   | false=>rw[hb] at h;exact ih h
   | true=>rw[hb] at h;rw[Zx hb];exact h
def dI:Code->Nat
 | .region id _ _=>id
 | .seq a _=>dI a
 | .block _ a=>dI a
 | .loop a=>dI a
 | .scope a=>dI a
 | _=>0
def pk(st:Nat->bM)(L:List Nat)(e z:Nat)(byte:Bool)(v:AV)(k:AV->List Nat->Option O):Option O :=
 match byte with
 | true=>match v with
  | .dq=>k (.bY []) L
  | .row r=>match st r with
   | .fg e' l Zv=>aB (Zy e e' && !L.contains r) (k (.bY l) (r::L))
   | _=>none
  | _=>none
 | false=>match v with
  | .dq=>aB (Zk 0 z) (k (.aH []) L)
  | .row r=>match st r with
   | .dG e' z' l Zv=>aB (Zy e e'&&Zy z z' && !L.contains r) (k (.aH l) (r::L))
   | _=>none
  | _=>none
def AO(st:Nat->bM)(L:List Nat)(s:Bool)(kd:IntKind)(v:AV)(k:AV->List Nat->Option O):Option O :=
 match v with
 | .mp r=>match st r with
  | .oK s' kd' els=>aB ((s==s')&&(kd==kd') && !L.contains r) (k (.aH els) (r::L))
  | _=>none
 | _=>none
def dz:List KC->List AV->(Nat->bM)->List Nat->(List AV->(Nat->bM)->List Nat->FP->Option O)->Option O
 | [],[],st,L,k=>k [] st L .none
 | .mh c::cs,v::vs,st,L,k=>B_ c v st λa cM fp=>aB (fp.wr.all λx => !L.contains x) (dz cs vs cM L λl cm L2 f2=>k (a::l) cm L2 (fp.add f2))
 | .own _ e z b::cs,v::vs,st,L,k=>pk st L e z b v λa L1=>dz cs vs st L1 λl cm L2 f2=>k (a::l) cm L2 f2
 | .sU _ s kd::cs,v::vs,st,L,k=>AO st L s kd v λa L1=>dz cs vs st L1 λl cm L2 f2=>k (a::l) cm L2 f2
 | _,_,_,_,_=>none
def cQ(sl:Nat->AV)(st:Nat->bM)(L:List Nat)(h:jO)(k:List AV->(Nat->bM)->List Nat->FP->Option O):Option O :=
 match h with
 | .val s ty=>(E.ty ty).bind λi=>out i (sl s) st λv cM fp=>aB (fp.wr.all λx => !L.contains x) (match dv i.kind with
  | true=>k v.cells cM L fp
  | false=>k [v] cM L fp)
 | .fg s e p=>match sl s with
  | .dq=>k [.bY []] st L .none
  | .row r=>match st r with
   | .fg e' l q=>aB (Zy e e'&&(p || !q) && !L.contains r) (k [.bY l] st (r::L) .none)
   | _=>none
  | _=>none
 | .dG s e z p=>match sl s with
  | .dq=>aB (Zk 0 z) (k [.aH []] st L .none)
  | .row r=>match st r with
   | .dG e' z' l q=>aB (Zy e e'&&Zy z z'&&(p || !q) && !L.contains r) (k [.aH l] st (r::L) .none)
   | _=>none
  | _=>none
 | .ptr s b off=>match sl s with
  | .ptr b' ND=>aB (Zy b b'&&Zy off ND) (k [] st L .none)
  | _=>none
 | .bP s b iM=>match sl s with
  | .bP b' Ie=>aB (Zy b b'&&iM==Ie) (k [] st L .none)
  | _=>none
 | .cells b ie=>match st b with
  | .cells cs=>nS ie cs st λl cM fp=>aB ((fp.wr.all λx => !L.contains x) && !L.contains b) (k l cM (b::L) fp)
  | _=>none
 | .jx b p=>match st b with
  | .jx l q=>aB ((p || !q) && !L.contains b) (k [.bs l] st (b::L) .none)
  | _=>none
 | .j8 b tt=>match st b with
  | .cells cs=>dz tt cs st L λl cM L1 f1=>aB (!L1.contains b) (k l cM (b::L1) f1)
  | _=>none
 | .rowAt b h e z=>match h with
  | true=>match st b with
   | .jh e' z' l=>aB (Zy e e'&&Zy z z' && !L.contains b) (k [.aH l] st (b::L) .none)
   | _=>none
  | false=>match st b with
   | .dG e' z' l q=>aB (Zy e e'&&Zy z z' && !q && !L.contains b) (k [.aH l] st (b::L) .none)
   | _=>none
 | .iq s b e z=>match sl s with
  | .bR b' e' z'=>aB (Zy b b'&&Zy e e'&&Zy z z') (k [] st L .none)
  | _=>none
def ep(sl:Nat->AV):List jO->(Nat->bM)->List Nat->(List AV->(Nat->bM)->List Nat->FP->Option O)->Option O
 | [],st,L,k=>k [] st L .none
 | h::hs,st,L,k=>cQ E sl st L h λl cM L1 f1=>ep sl hs cM L1 λr cm L2 f2=>k (l++r) cm L2 (f1.add f2)
def collect(fr:Fr)(hs:List jO)(k:List AV->Option O):Option O:=ep E fr.aS hs fr.st [] λl _ _ _=>k l
def ol:List CT->List AV->(List AV->List AV->Option O)->Option O
 | [],l,k=>k [] l
 | c::cs,l,k=>aA l λx r=>gK c x λx'=>ol cs r λa b=>k (x'::a) b
def fresh(st:Nat->bM)(b:Nat)(k:Option O):Option O:=match st b with
 | .free=>k
 | _=>none
def nX(st:Nat->bM)(b:Nat)(k:Option O):Option O:=match st b with
 | .free=>k
 | .dead=>k
 | _=>none
def dp:List KC->List AV->Fr->(List AV->List AV->Fr->Option O)->Option O
 | [],l,fr,k=>k [] l fr
 | .mh c::cs,l,fr,k=>aA l λx r=>gK c x λx'=>dp cs r fr λa b dZ=>k (x'::a) b dZ
 | .own t e z b::cs,l,fr,k=>aA l λx r=>match b with
  | true=>x.fJ λy=>fresh fr.st t (dp cs r ⟨fr.aS,cX fr.st t (.fg e y Zv)⟩ λa b dZ=>k (.row t::a) b dZ)
  | false=>x.aX λy=>fresh fr.st t (dp cs r ⟨fr.aS,cX fr.st t (.dG e z y Zv)⟩ λa b dZ=>k (.row t::a) b dZ)
 | .sU t s kd::cs,l,fr,k=>aA l λx r=>x.aX λy=>fresh fr.st t (dp cs r ⟨fr.aS,cX fr.st t (.oK s kd y)⟩ λa b dZ=>k (.mp t::a) b dZ)
def restore:List jO->List AV->Fr->(Fr->Option O)->Option O
 | [],l,fr,k=>ak l (k fr)
 | h::hs,l,fr,k =>
  match h with
  | .val s ty=>(E.ty ty).bind λi=>match dv i.kind with
   | true=>ol i.ie l λcs r=>restore hs r ⟨cX fr.aS s (.agg cs),fr.st⟩ k
   | false=>match i.ie with
    | [c]=>aA l λx r=>gK c x λx'=>restore hs r ⟨cX fr.aS s x',fr.st⟩ k
    | _=>none
  | .fg s e p=>aA l λx r=>x.fJ λb=>fresh fr.st (8192+s) (restore hs r ⟨cX fr.aS s (.row (8192+s)),cX fr.st (8192+s) (.fg e b p)⟩ k)
  | .dG s e z p=>aA l λx r=>x.aX λb=>fresh fr.st (8192+s) (restore hs r ⟨cX fr.aS s (.row (8192+s)),cX fr.st (8192+s) (.dG e z b p)⟩ k)
  | .ptr s b off=>match fr.st b with
   | .cells _=>restore hs l ⟨cX fr.aS s (.ptr b off),fr.st⟩ k
   | .jx _ _=>restore hs l ⟨cX fr.aS s (.ptr b off),fr.st⟩ k
   | _=>none
  | .bP s b iM=>match fr.st b with
   | .cells _=>restore hs l ⟨cX fr.aS s (.bP b iM),fr.st⟩ k
   | _=>none
  | .cells b ie=>ol ie l λcs r=>nX fr.st b (restore hs r ⟨fr.aS,cX fr.st b (.cells cs)⟩ k)
  | .jx b p=>aA l λx r=>x.cS λc=>nX fr.st b (restore hs r ⟨fr.aS,cX fr.st b (.jx c p)⟩ k)
  | .j8 b tt=>dp tt l fr λcs r dZ=>nX dZ.st b (restore hs r ⟨dZ.aS,cX dZ.st b (.cells cs)⟩ k)
  | .rowAt b h e z=>aA l λx r=>x.aX λy=>nX fr.st b (match h with
   | true=>restore hs r ⟨fr.aS,cX fr.st b (.jh e z y)⟩ k
   | false=>restore hs r ⟨fr.aS,cX fr.st b (.dG e z y Zv)⟩ k)
  | .iq s b e z=>match fr.st b with
   | .jh .. => restore hs l ⟨cX fr.aS s (.bR b e z),fr.st⟩ k
   | _=>none
def pL:Fr:=⟨λ_ => .undef,λk=>bif E.hand.contains k then .dead else .free⟩
end
noncomputable def exec(E:Env)(rts:Nat->Option (List Nat))(n:Nat):Code->(O:Type)->Fr->(Ex->Fr->Option O)->Option O
 | .skip,_,fr,k=>k .normal fr
 | .label _,_,fr,k=>k .normal fr
 | .region id ops draw,_,fr,k=>match E.jq (2000000+id) with
  | []=>fD E rts n ops.toList ops.toList fr λbN mV=>aB (!draw||indep ops.toList mV) (k .normal bN)
  | h::hs=>(fD E rts n ops.toList ops.toList fr λbN mV=>aB (!draw||indep ops.toList mV) (collect E bN (h::hs) Zz)).bind λl=>restore E (h::hs) l (pL E) λbN=>k .normal bN
 | .seq a b,O,fr,k=>exec E rts n a O fr λe bN=>e.TF (exec E rts n b O bN k) λe=>k e bN
 | .cond c a b,O,fr,k=>match E.jq (3000000+dI a) with
  | []=>(c4 E fr c).bind λv=>v.dd λt=>aE t (exec E rts n a O fr k) (exec E rts n b O fr k)
  | h::hs=>((c4 E fr c).bind λv=>v.dd λt=>aE t (exec E rts n a (List AV) fr λe bN=>e.Ug (collect E bN (h::hs) Zz)) (exec E rts n b (List AV) fr λe bN=>e.Ug (collect E bN (h::hs) Zz))).bind λl=>restore E (h::hs) l (pL E) λbN=>k .normal bN
 | .block id a,O,fr,k=>exec E rts n a O fr λe bN=>e.ww id λe=>k e bN
 | .loop a,_,fr,k =>
  collect E fr (E.jq (dI a)) λOC =>
   (bD (λst=>restore E (E.jq (dI a)) st (pL E) λTY=>exec E rts n a (List AV ⊕ (Ex×List AV)) TY λe bN =>
     collect E bN (E.jq (dI a)) λst'=>Zz (e.qb st')) OC).bind λr=>restore E (E.jq (dI a)) r.2 (pL E) λbN=>Ex.out (DS (outs a)) r.1 λe=>k e bN
 | .exit id,_,fr,k=>k (.exit id) fr
 | .ret,_,fr,k=>k .ret fr
 | _,_,_,_=>none
def ib(args:List AV)(j:Nat):Option (Nat×Nat):=match args[j]? with
 | some (.bR _ e z)=>Zz (e,z)
 | _=>none
def Fu(q:Option (Nat×Nat))(cs:List AV):bM:=match q with
 | some q => .jh q.1 q.2 cs
 | none => .cells cs
def T4:Nat->List AV->Bool
 | _,[]=>Zn
 | j,a::r=>(match a with | .bR k _ _=>Zy k j | .ptr k _=>Zy k j | _=>Zn)&&T4 (j+1) r
def entry:Nat->List AV->List (Nat×List AV)->Fr
 | _,args,cP=>⟨λi=>(args[i]?).getD .undef,λb=>match cP.find? (λx=>Zy x.1 b) with | some x=>Fu (ib args b) x.2 | none => .free⟩
section
variable {O:Type} (E:Env)
def Pc(fs:List (Nat×Nat))(i:TI)(st:Nat->bM)(L:List Nat)(v:AV)(k:AV->(Nat->bM)->List Nat->Option O):Option O :=
 match QN E.ty fs with
 | some (j,e,ei)=>match v with
  | .agg cs=>match cs[j]? with
   | some (.row r)=>match st r with
    | .dG e' z l Zv=>aB (Zy e e'&&Zy z ei.size && !L.contains r) (nS (i.ie.set j .bool) (cs.set j (.bool Zv)) st λa cM fp=>aB (fp.wr.all λx => !(r::L).contains x) (k (.agg (a.set j (.aH l))) cM (r::L)))
    | _=>none
   | _=>none
  | _=>none
 | none=>out i v st λa cM fp=>aB (fp.wr.all λx => !L.contains x) (k a cM L)
def Gi(i:TI)(st:Nat->bM)(L:List Nat)(own:Bool)(v:AV)(k:AV->(Nat->bM)->List Nat->Option O):Option O :=
 match own with
 | false=>out i v st λa cM fp=>aB (fp.wr.all λx => !L.contains x) (k a cM L)
 | true=>match i.kind with
  | .slice e Zn=>match v with
   | .dq=>k (.bY []) st L
   | .row r=>match st r with
    | .fg e' l Zv=>aB (Zy e e' && !L.contains r) (k (.bY l) st (r::L))
    | _=>none
   | _=>none
  | .slice e Zv=>match E.ty e with
   | none=>none
   | some ei=>match v with
    | .dq=>aB (Zk 0 ei.size) (k (.aH []) st L)
    | .row r=>match st r with
     | .dG e' z l Zv=>aB (Zy e e'&&Zy z ei.size && !L.contains r) (k (.aH l) st (r::L))
     | _=>none
    | _=>none
  | .struct fs=>Pc E fs i st L v k
  | _=>out i v st λa cM fp=>aB (fp.wr.all λx => !L.contains x) (k a cM L)
def KY(sl:Nat->AV)(st:Nat->bM)(L:List Nat)(r:ResultVar)(ty:Nat)(own:Bool)(k:AV->(Nat->bM)->List Nat->Option O):Option O :=
 (E.ty ty).bind λi=>match r with
  | .tmp t=>Gi E i st L own (sl t) k
  | .cell a t=>(E.ty t).bind λti=>kP E ⟨sl,st⟩ ti (sl a) λv _ _=>Gi E i st L own v k
def uT(sl:Nat->AV):List ResultVar->List Nat->(Nat->bM)->List Nat->Bool->(List AV->(Nat->bM)->List Nat->Option O)->Option O
 | [],[],st,L,_,k=>k [] st L
 | r::rs,ty::lj,st,L,own,k=>KY E sl st L r ty own λv cM L1=>uT sl rs lj cM L1 Zv λl cm L2=>k (v::l) cm L2
 | _,_,_,_,_,_=>none
def qO(as:List AV):List (Nat×List AV)->List Nat->(Nat->bM)->List Nat->(aO->Option O)->Option O
 | [],_,_,_,k=>k []
 | (b,_)::r,lj,st,L,k=>match st b,(lj[b]?).bind E.ty with
  | .cells cs,Zz { kind := .ptr e,.. }=>(E.ty e).bind λei=>nS ei.ie cs st λl cM fp=>aB (fp.wr.all λx => !L.contains x) (qO as r lj cM L λbs=>k (l::bs))
  | .jh e z els,_=>match ib as b with
   | some q=>aB (Zy e q.1&&Zy z q.2) (qO as r lj st L λbs=>k (els::bs))
   | none=>none
  | _,_=>none
end
noncomputable def w_(E:Env)(rts:Nat->Option (List Nat))(own:Bool)(fn:Func)(args:List AV)(cP:List (Nat×List AV))(hand:List Nat):Option (AV×aO) :=
 match fn.body with
 | none=>none
 | some c=>aB (Zh args.length fn.ntmps&&T4 0 args) (exec { E with hand:=hand } rts fn.ntmps c (AV×aO) (entry 0 args cP) λe fr=>e.U1 (uT E fr.aS fn.results.toList fn.resultTypes.toList fr.st [] own λvs st L=>qO E args cP fn.params.toList st L λbs =>
   match vs with
   | [v]=>Zz (v,bs)
   | vs=>Zz (.aQ vs,bs)) none)
noncomputable def Ez(E:Env)(rts:Nat->Option (List Nat))(own:Bool)(fn:Func)(args:List AV)(cP:List (Nat×List AV)):Option (AV×aO):=w_ E rts own fn args cP (cP.map (·.1))
end Go.Abs
/- What follows from an eliminator's having a result. -/
namespace Go.Abs
theorem mE{O:Type}{c:CT}{v:AV}{k:AV->Option O}{r:O}(h:gK c v k=Zz r):k v=Zz r:=by
 unfold gK at h;split at h
 .rename_i kd;unfold AV.aw at h;split at h
  .rename_i _ k' n;cases he:(k'==kd) with
   | false=>rw[he] at h;cases h
   | true =>
    have:k'=kd:=by simpa using he
    subst this;rw[he] at h;exact h
  .cases h
 .unfold AV.qd at h;split at h<;>first | exact h | cases h
 .unfold AV.dd at h;split at h<;>first | exact h | cases h
 .unfold AV.fK at h;split at h<;>first | exact h | cases h
 .unfold AV.cS at h;split at h<;>first | exact h | cases h
 .rename_i z;unfold AV.fR at h;split at h
  .rename_i _ z' l;cases he:Zy z' z with
   | false=>rw[he] at h;cases h
   | true =>
    have:=Zx he;subst this;rw[he] at h;exact h
  .cases h
 .cases h
theorem gP{O:Type}{l:List AV}{f:AV->List AV->Option O}{r:O}(h:aA l f=Zz r):∃ x t,l=x::t/\f x t=Zz r:=by
 unfold aA at h;split at h
 .exact⟨_,_,rfl,h⟩
 .cases h
theorem ob{O:Type}{l:List AV}{f:Option O}{r:O}(h:ak l f=Zz r):l=[]/\f=Zz r:=by
 unfold ak at h;split at h
 .exact⟨rfl,h⟩
 .cases h
theorem wQ{O:Type}:∀ {cs:List CT} {l:List AV} {k:List AV->Option O} {r:O},n_ cs l k=Zz r->k l=Zz r
 | [],l,k,r,h=>by obtain⟨rfl,h⟩:=ob h;exact h
 | c::cs,l,k,r,h=>by
  simp only[n_] at h;obtain⟨x,t,rfl,h1⟩:=gP h;exact wQ (k:=λr'=>k (x::r')) (mE h1)
theorem vu{O:Type}{v:AV}{f:List AV->Option O}{r:O}(h:v.cR f=Zz r):∃ l,v = .agg l/\f l=Zz r:=by
 unfold AV.cR at h;split at h
 .exact⟨_,rfl,h⟩
 .cases h
theorem En{O:Type}{v:AV}{f:List AV->Option O}{r:O}(h:v.gx f=Zz r):∃ l,v = .aQ l/\f l=Zz r:=by
 unfold AV.gx at h;split at h
 .exact⟨_,rfl,h⟩
 .cases h
theorem vv{O:Type}{v:AV}{f:List UInt8->Option O}{r:O}(h:v.fK f=Zz r):∃ l,v = .str l/\f l=Zz r:=by
 unfold AV.fK at h;split at h
 .exact⟨_,rfl,h⟩
 .cases h
theorem B8{O:Type}{v:AV}{f:List UInt8->Option O}{r:O}(h:v.cS f=Zz r):∃ l,v = .bs l/\f l=Zz r:=by
 unfold AV.cS at h;split at h
 .exact⟨_,rfl,h⟩
 .cases h
theorem uN{O:Type}{v:AV}{f:Bool->Option O}{s:Option O}{r:O}(h:v.pj f s=Zz r):(∃ l,v = .bool l/\f l=Zz r)\/(v = .aQ []/\s=Zz r):=by
 unfold AV.pj at h;split at h
 .exact .inl ⟨_,rfl,h⟩
 .exact .inr ⟨rfl,h⟩
 .cases h
theorem NG{O:Type}{v:AV}{f:Nat->List (Nat×Nat)->List (Nat×Nat)->Option O}{r:O}(h:v.Mj f=Zz r):(∃ n,v = .fn n/\f n [] []=Zz r)\/∃ n a b,v = .C4 n a b/\f n a b=Zz r:=by
 unfold AV.Mj at h;split at h
 .exact .inl ⟨_,rfl,h⟩
 .exact .inr ⟨_,_,_,rfl,h⟩
 .cases h
theorem sT{O:Type}{v:AV}{f:Bool->Option O}{r:O}(h:v.dd f=Zz r):∃ l,v = .bool l/\f l=Zz r:=by
 unfold AV.dd at h;split at h
 .exact⟨_,rfl,h⟩
 .cases h
theorem wS{O:Type}{v:AV}{f:List UInt8->Option O}{r:O}(h:v.fJ f=Zz r):∃ l,v = .bY l/\f l=Zz r:=by
 unfold AV.fJ at h;split at h
 .exact⟨_,rfl,h⟩
 .cases h
theorem qc{O:Type}{v:AV}{f:List AV->Option O}{r:O}(h:v.aX f=Zz r):∃ l,v = .aH l/\f l=Zz r:=by
 unfold AV.aX at h;split at h
 .exact⟨_,rfl,h⟩
 .cases h
theorem Il{O:Type}{v:AV}{z:Nat}{f:List AV->Option O}{r:O}(h:v.fR z f=Zz r):∃ l,v = .sl z l/\f l=Zz r:=by
 unfold AV.fR at h;split at h
 .rename_i z' l;cases he:Zy z' z with
  | false=>rw[he] at h;cases h
  | true =>
   have:=Zx he;subst this;rw[he] at h;exact⟨l,rfl,h⟩
 .cases h
theorem jS{O:Type}{i:TI}{v:AV}{k:AV->Option O}{r:O}(h:norm i v k=Zz r):k v=Zz r:=by
 unfold norm at h;split at h
 .obtain⟨l,rfl,h⟩:=vu h;exact wQ h
 .split at h
  .exact mE h
  .cases h
theorem aL{O:Type}{b:Bool}{f:Option O}{r:O}(h:aB b f=Zz r):b=Zn/\f=Zz r:=by
 cases b
 .cases h
 .exact⟨rfl,h⟩
theorem cT{O:Type}{b:Bool}{f:Option O}{r:O}(h:(bif b then f else none)=Zz r):b=Zn/\f=Zz r:=by
 cases b
 .cases h
 .exact⟨rfl,h⟩
theorem B9{O:Type}{l:aO}{f:Option O}{r:O}(h:aD l f=Zz r):l=[]/\f=Zz r:=by
 unfold aD at h;split at h
 .exact⟨rfl,h⟩
 .cases h
theorem Ac{O:Type}{l:aO}{f:List AV->aO->Option O}{r:O}(h:aC l f=Zz r):∃ x t,l=x::t/\f x t=Zz r:=by
 unfold aC at h;split at h
 .exact⟨_,_,rfl,h⟩
 .cases h
theorem FZ{O:Type}{o v:AV}{k:AV->Option O}{r:O}(h:yo o v k=Zz r):k v=Zz r/\∀ (J:Type) (k2:AV->Option J),yo o v k2=k2 v:=by
 cases o<;>simp only[yo] at h ⊢;case int kd n =>
  cases v<;>simp only[AV.aw] at h ⊢ <;> try (cases h;done)
  rename_i k' m;cases he:(k'==kd) with
  | false=>rw[he] at h;cases h
  | true =>
   have:k'=kd:=by simpa using he
   subst this;rw[he] at h;exact⟨h,λ_ _=>rfl⟩
 case u8 b=>cases v<;>simp only[AV.qd] at h ⊢ <;> first | (cases h;done) | exact⟨h,λ_ _=>trivial⟩
 case bool b=>cases v<;>simp only[AV.dd] at h ⊢ <;> first | (cases h;done) | exact⟨h,λ_ _=>trivial⟩
 case str b=>cases v<;>simp only[AV.fK] at h ⊢ <;> first | (cases h;done) | exact⟨h,λ_ _=>trivial⟩
 case bs b=>cases v<;>simp only[AV.cS] at h ⊢ <;> first | (cases h;done) | exact⟨h,λ_ _=>trivial⟩
 case sl z b =>
  cases v<;>simp only[AV.fR] at h ⊢ <;> try (cases h;done)
  rename_i z' l;cases he:Zy z' z with
  | false=>rw[he] at h;cases h
  | true =>
   have:=Zx he;subst this;rw[he] at h;exact⟨h,λ_ _=>rfl⟩
 all_goals exact⟨h,λ_ _=>trivial⟩
theorem rf{O:Type}:∀ {os l:List AV} {k:List AV->Option O} {r:O},pA os l k=Zz r->k l=Zz r/\os.length=l.length/\∀ (J:Type) (k2:List AV->Option J),pA os l k2=k2 l
 | [],l,k,r,h=>by obtain⟨rfl,h⟩:=ob h;exact⟨h,rfl,λ_ _=>rfl⟩
 | o::os,l,k,r,h=>by
  simp only[pA] at h;obtain⟨x,t,rfl,h1⟩:=gP h;obtain⟨h2,d2⟩:=FZ h1;obtain⟨h3,e3,d3⟩:=rf (k:=λr'=>k (x::r')) h2;exact⟨h3,by simp[e3],λJ k2=>by simp only[pA,aA];rw[d2,d3]⟩
theorem Et{O:Type}:∀ {l:List Nat} {n:Nat} {f:Nat->Option O} {r:O},Cf l n f=Zz r->∃ o,l[n]? = Zz o/\f o=Zz r
 | [],n,f,r,h=>by cases h
 | o::l,n,f,r,h=>by
  simp only[Cf,aE] at h;cases n with
  | zero=>exact⟨o,rfl,h⟩
  | succ n =>
   have hb:Zy (n+1) 0=Zv:=rfl;rw[hb] at h;obtain⟨o',h1,h2⟩:=Et h;exact⟨o',by simpa using h1,h2⟩
theorem wz{op:BinOp}{x y v:AV}(h:Bf op x y=Zz (Zn,v)):nN op x y=Zz v:=by
 have Zr:∀ {o:Option AV},(o.map λv=>(Zn,v))=Zz (Zn,v)->o=Zz v:=λ{o} h=>by
  cases o with
  | none=>cases h
  | some w=>cases h;rfl
 have Y8:∀ {f:IntKind->Int->Int->Bool} {gg:IntKind->Int->Int->AV},iQ x y (λk n m=>Zz (f k n m,gg k n m))=Zz (Zn,v)->iQ x y (λk n m=>aB (f k n m) (Zz (gg k n m)))=Zz v:=by
  intro f gg h;unfold iQ at h ⊢;split at h
  .obtain⟨hb,h⟩:=cT h;rw[hb];simp only[Option.some.injEq,Prod.mk.injEq] at h;simp only[h.1,h.2,aB,Qa6]
  .simp only[Option.some.injEq,Prod.mk.injEq] at h;simp only[h.1,h.2,aB,Qa6]
  .cases h
 cases op<;>simp only[Bf] at h<;>first | exact Zr h | exact Y8 h | skip
 .split at h
  .simp only[Option.some.injEq,Prod.mk.injEq] at h;simp only[nN,h.1,h.2,aB,Qa6]
  .exact Zr h
 all_goals
  split at h
  .rename_i hm;simp only[Option.some.injEq,Prod.mk.injEq] at h;simp only[nN,hm,h.1,h.2,aB,Qa6]
  .rename_i hm;simp only[Option.some.injEq,Prod.mk.injEq] at h;simp only[nN,hm,h.1,h.2,aB,Qa6]
  .cases h
theorem Hg{i:TI}{op:BinOp}{x y v:AV}(h:Fg i op x y=Zz (Zn,v)):Ff i op x y=Zz v:=by
 cases x<;>simp only[Fg,Ff] at h ⊢ <;> try (first | exact wz h | (cases h;done))
 .cases hk:i.kind<;>rw[hk] at h<;>simp only at h ⊢ <;> first | exact wz h | (cases h;done)
 .cases he:i.Xc with
  | nil=>rw[he] at h;cases h
  | cons c r =>
   rw[he] at h;simp only at h ⊢;obtain⟨hb,h⟩:=cT h;rw[hb];exact wz h
theorem vA:∀ (cs:List AV) (off:Nat) (n:List AV),off+n.length<=cs.length->sW cs off n=place cs off n
 | [],off,n,h=>by
  have hn:n.length=0:=by simp only[List.length_nil] at h;omega
  have:n=[]:=Yz hn;subst this;simp[sW,place]
 | c::cs,0,n,h=>by
  cases n with
  | nil=>simp[sW,place]
  | cons x r =>
   have:=vA cs 0 r (by simp at h;omega);simp only[sW,this,place,List.take_zero,List.nil_append,Nat.zero_add,List.length_cons,List.drop_succ_cons,List.cons_append]
 | c::cs,k+1,n,h=>by
  have:=vA cs k n (by simp at h;omega);simp only[sW,this,place,List.take_succ_cons,List.cons_append];rw[show k+1+n.length=(k+n.length)+1 by omega,List.drop_succ_cons]
theorem uu{sz:Nat}:∀ {els:List AV},(∀ x∈els,x.cells.length=sz)->∀ {n:Nat} {x:AV},els[n]? = Zz x->∀ {j:Nat} {c:AV},x.cells[j]? = Zz c->(els.flatMap AV.cells)[n*sz+j]? = Zz c
 | [],_,n,x,h,_,_,_=>by simp at h
 | y::r,hs,n,x,h,j,c,hj=>by
  have hy:=hs y (by simp);rw[Zg];cases n with
  | zero =>
   simp at h;subst h;have:j<y.cells.length:=(Zq.1 hj).1;rw[Nat.zero_mul,Nat.zero_add,List.getElem?_append_left this];exact hj
  | succ n =>
   simp at h;have ih:=uu (λz hz=>hs z (by simp[hz])) h hj;rw[List.getElem?_append_right (by rw[hy,Yy];omega)];rw[show(n+1)*sz+j-y.cells.length=n*sz+j by rw[hy,Yy];omega];exact ih
theorem jC{sz:Nat}:∀ {els:List AV},(∀ x∈els,x.cells.length=sz)->(els.flatMap AV.cells).length=els.length*sz
 | [],_=>by simp
 | x::r,h=>by
  rw[Zg,List.length_append,jC λy hy=>h y (by simp[hy]),h x (by simp),List.length_cons,Yy];omega
theorem KM{O:Type}{c:CT}{v:AV}{k:AV->Option O}{r:O}(h:gK c v k=Zz r):v.cells=[v]:=by
 cases v<;>first | rfl | (cases c<;>simp[gK,AV.aw,AV.qd,AV.dd,AV.fK,AV.cS,AV.fR] at h)
theorem Em{O:Type}{i:TI}{v:AV}{k:AV->Option O}{r:O}(h:norm i v k=Zz r)(ha:dv i.kind=Zv):v.cells=[v]:=by
 unfold norm at h;rw[ha] at h;simp only at h;split at h
 .exact KM h
 .cases h
theorem yp{O:Type}{i:TI}{v:AV}{k:AV->Option O}{r:O}(h:norm i v k=Zz r):match v with | .bY _=>False | .aH _=>False | _=>True:=by
 cases v<;>try trivial
 all_goals
  unfold norm at h;split at h
  .simp[AV.cR] at h
  .split at h
   .rename_i c _;cases c<;>simp[gK,AV.aw,AV.qd,AV.dd,AV.fK,AV.cS,AV.fR] at h
   .cases h
theorem yn{O:Type}:∀ {ie:List CT} {cs:List AV} {k:List AV->Option O} {r:O},n_ ie cs k=Zz r->∀ (j:Nat) (l:List AV),cs[j]? = Zz (.aH l)->False
 | [],cs,k,r,h,j,l,hj=>by
  obtain⟨rfl,_⟩:=ob h;simp at hj
 | c::ie,cs,k,r,h,j,l,hj=>by
  obtain⟨x,q,rfl,h2⟩:=gP h;cases j with
  | zero =>
   simp only[List.getElem?_cons_zero,Option.some.injEq] at hj;subst hj;cases c<;>simp[gK,AV.aw,AV.qd,AV.dd,AV.fK,AV.cS,AV.fR] at h2
  | succ j =>
   have h3:=mE h2;exact yn h3 j l (by simpa using hj)
theorem B6{O:Type}{i:TI}{cs:List AV}{k:AV->Option O}{r:O}(h:norm i (.agg cs) k=Zz r)(j:Nat)(l:List AV)(hj:cs[j]? = Zz (.aH l)):False:=by
 unfold norm at h;split at h
 .exact yn h j l hj
 .split at h
  .rename_i c _;cases c<;>simp[gK,AV.aw,AV.qd,AV.dd,AV.fK,AV.cS,AV.fR] at h
  .cases h
theorem El{O:Type}{t:Nat}:∀ {j:Nat} {ie:List CT} {cs:List AV} {k:List AV->List AV->Option O} {r:O},qM t j ie cs k=Zz r->∃ l,cs[j]? = Zz (.aH l)/\k (cs.set j (.row t)) l=Zz r
 | 0,[],cs,k,r,h=>by simp only[qM] at h;cases h
 | j+1,[],cs,k,r,h=>by simp only[qM] at h;cases h
 | 0,c::ie,cs,k,r,h=>by
  simp only[qM] at h;obtain⟨x,q,rfl,h2⟩:=gP h;obtain⟨l,rfl,h3⟩:=qc h2;exact⟨l,by simp,by simpa using wQ h3⟩
 | j+1,c::ie,cs,k,r,h=>by
  simp only[qM] at h;obtain⟨x,q,rfl,h2⟩:=gP h;obtain⟨l,h4,h5⟩:=El (mE h2);exact⟨l,by simpa using h4,by simpa using h5⟩
theorem Nh{O:Type}{E:Env}{fs:List (Nat×Nat)}{t:Nat}{i:TI}{v:AV}{st:Nat->bM}{k:AV->(Nat->bM)->FP->Option O}{r:O}(h:HS E fs t i v st k=Zz r) :
  (∃ cs j l e ei,v = .agg cs/\cs[j]? = Zz (.aH l)/\st t = .free/\QN E.ty fs=Zz (j,e,ei)/\k (.agg (cs.set j (.row t))) (cX st t (.dG e ei.size l Zv)) ⟨[t],[t]⟩=Zz r)\/norm i v (λv'=>k v' st .none)=Zz r:=by
 unfold HS at h;split at h
 .rename_i j e ei hf;split at h
  .rename_i ht;obtain⟨cs,rfl,h2⟩:=vu h;obtain⟨l,h3,h4⟩:=El h2;exact .inl ⟨cs,j,l,e,ei,rfl,h3,ht,hf,h4⟩
  .cases h
 .exact .inr h
end Go.Abs
/- The types of a program, as the abstract interpreter sees them. -/
namespace Go.Abs
def Dv(P:Program)(t:Nat):Bool :=
 match P.underlying t,P.info? t with
 | some (.int .u8),Zz i=>i.size==1&&i.bytes==1&&(match i.zero with | some (.int .u8 0)=>Zn | _=>Zv)
 | _,_=>Zv
def sized(P:Program)(t:Nat):Bool:=match P.info? t with | some i=>Zk 0 i.size | none=>Zv
def LM(P:Program):Nat->Nat->Option (List CT)
 | 0,_=>none
 | n+1,t=>match P.underlying t with
  | some (.int .u8)=>Zz [.u8]
  | some (.int k)=>Zz [.int k]
  | some .bool=>Zz [.bool]
  | some .string=>Zz [.str]
  | some (.slice e)=>Zz [if Dv P e then .eV else .sl (match P.info? e with | some i=>i.size | none=>0)]
  | some (.pointer _)=>Zz [.ptr]
  | some (.map _ _)=>Zz [.other]
  | some (.func _ _ _)=>Zz [.other]
  | some (.struct fs)=>fs.toList.foldr (λf acc=>match LM P n f.type,acc with | some a,Zz b=>Zz (a++b) | _,_=>none) (Zz [])
  | some (.array k e)=>match LM P n e with
   | some l=>Zz ((List.replicate k l).flatten)
   | none=>none
  | _=>none
def hY(P:Program)(t:Nat):Option TK :=
 match P.underlying t with
 | some (.int .u8)=>Zz .u8
 | some (.int k)=>Zz (.int k)
 | some .bool=>Zz .bool
 | some .string=>Zz .str
 | some (.slice e)=>Zz (.slice e (Dv P e))
 | some (.pointer e)=>Zz (.ptr e)
 | some (.array n e)=>Zz (.df n e (Dv P e))
 | some (.map k e)=>Zz (.map k e)
 | some (.struct fs) => if fs.toList.all (λf => sized P f.type && f.name != "_") then Zz (.struct (fs.toList.map λf => (f.offset, f.type))) else none
 | some (.func _ _ _)=>Zz .other
 | _=>none
def yf(P:Program):List Field->Nat->Bool
 | [],_=>Zn
 | f :: r, o => f.offset == o && f.name != "_" && (match P.info? f.type with | some i => Zk 0 i.size && yf P r (o + i.size) | none => Zv)
def LL(k:IntKind):CT:=match k with | .u8 => .u8 | k => .int k
def Ma(a:Option (List CT))(i:Option TypeInfo)(b:Option (List CT)):Option (List CT) :=
 match a with
 | some a=>match i with
  | some i=>match b with
   | some b=>if a.length=i.size then Zz (a++b) else none
   | none=>none
  | none=>none
 | none=>none
def vW(P:Program):Nat->Nat->Option (List CT)
 | 0,_=>none
 | n+1,t=>match P.underlying t,P.info? t with
  | some (.int k),Zz i=>if i.size=1 then Zz [LL k] else none
  | some .bool,Zz i=>if i.size=1 then Zz [.bool] else none
  | some .string,Zz i=>if i.size=1 then Zz [.str] else none
  | some (.struct fs),Zz i=>if P.stoodInHeld t=Zv/\yf P fs.toList 0=Zn then fs.toList.foldr (λf acc=>Ma (vW P n f.type) (P.info? f.type) acc) (Zz []) else none
  | _,_=>none
def GB(z:Option Value)(k:TK):Bool:=match z with
 | some (.agg _)=>dv k
 | some _ => !dv k
 | none=>Zv
def fh(P:Program)(t:Nat):Option TI :=
 match P.info? t,hY P t,LM P 20 t with
 | some i,Zz k,Zz ie=>match i.zero.bind λv=>ph v.cells.toList with
  | some z=>if z.length=i.size&&ie.length=i.size&&GB i.zero k then Zz ⟨i.size,i.bytes,k,z,ie,if P.eqGuardType P.depth t=Zv then(vW P 20 t).getD [] else[]⟩ else none
  | none=>none
 | _,_,_=>none
end Go.Abs
/- What it means that a value of the model's, in a world, is one of the abstract interpreter's; and that this stays so. -/
namespace Go.Abs
abbrev bJ:=Nat->Nat
def ku(b:UInt8):Value := .int .u8 b.toNat
inductive ca (w:World) (p:bJ):Value->AV->Prop
 | int {k:IntKind} {n:Int} (hk:k ≠ .u8):ca w p (.int k n) (.int k n)
 | u8 {b:UInt8}:ca w p (ku b) (.u8 b)
 | bool {b:Bool}:ca w p (.bool b) (.bool b)
 | str {s:ByteArray} {l:List UInt8} (h:s.data.toList=l):ca w p (.string s) (.str l)
 | bs {a:Option Addr} {len cap:Nat} {l:List UInt8} (J off:Nat) (hl:l.length=len) (hc:len<=cap) (ha:len=0\/a=Zz ⟨J,off,none⟩)
   (h:∀ i b,l[i]? = Zz b->off+i<p J/\w.cell? ⟨J,off+i,none⟩=Zz (ku b)):ca w p (.slice a len cap) (.bs l)
 | sl {a:Option Addr} {len cap sz:Nat} {els:List AV} (J off:Nat) (vs:Nat->Value) (hl:els.length=len) (hc:len<=cap) (fV:∀ e∈els,e.cells.length=sz) (ha:len=0\/a=Zz ⟨J,off,none⟩)
   (h:∀ j c,(els.flatMap AV.cells)[j]? = Zz c->off+j<p J/\w.cell? ⟨J,off+j,none⟩=Zz (vs j))
   (hr:∀ j c,(els.flatMap AV.cells)[j]? = Zz c->ca w p (vs j) c):ca w p (.slice a len cap) (.sl sz els)
 | dq {a:Option Addr}:ca w p (.slice a 0 0) .dq
 | nL:ca w p (.pointer none) .nL
 | FV:ca w p (.map none) .FV
 | ym:ca w p .nilFunc .ym
 | fn {f:Nat}:ca w p (.func (.func f) #[] #[]) (.fn f)
 | k_ {J off:Nat} {cs:List AV} (vs:Nat->Value) (h:∀ j c,cs[j]? = Zz c->off+j<p J/\w.cell? ⟨J,off+j,none⟩=Zz (vs j))
   (hr:∀ j c,cs[j]? = Zz c->ca w p (vs j) c):ca w p (.pointer (Zz ⟨J,off,none⟩)) (.k_ cs)
structure a_ (R:Value->AV->Prop) (vs:List Value) (cs:List AV):Prop where
 len:vs.length=cs.length
 each:∀ (i:Nat) (v:Value) (c:AV),vs[i]? = Zz v->cs[i]? = Zz c->R v c
theorem a_.imp{R R':Value->AV->Prop}{vs:List Value}{cs:List AV}(h:a_ R vs cs)(hr:∀ v c,R v c->R' v c):a_ R' vs cs :=
 ⟨h.len,λi v c hv hc=>hr v c (h.each i v c hv hc)⟩
theorem a_.nil{R:Value->AV->Prop}:a_ R [] []:=⟨rfl,λi v c hv=>by simp at hv⟩
theorem a_.cons{R:Value->AV->Prop}{v:Value}{c:AV}{vs:List Value}{cs:List AV}(h:R v c)(t:a_ R vs cs):a_ R (v::vs) (c::cs) :=
 ⟨by simp[t.len],λi x y hx hy=>by
  cases i with
  | zero=>simp at hx hy;subst hx;subst hy;exact h
  | succ i=>simp at hx hy;exact t.each i x y hx hy⟩
theorem a_.iV{R:Value->AV->Prop}{vs:List Value}{c:AV}{cs:List AV}(h:a_ R vs (c::cs)):∃ v Sz,vs=v::Sz/\R v c/\a_ R Sz cs:=by
 cases vs with
 | nil=>have:=h.len;simp at this
 | cons v Sz=>exact⟨v,Sz,rfl,h.each 0 v c rfl rfl,by have:=h.len;simpa using this,λi x y hx hy=>h.each (i+1) x y (by simpa using hx) (by simpa using hy)⟩
theorem a_.kg{R:Value->AV->Prop}{vs:List Value}(h:a_ R vs []):vs=[]:=Yz (by simpa using h.len)
theorem a_.get{R:Value->AV->Prop}{vs:List Value}{cs:List AV}(h:a_ R vs cs){i:Nat}{c:AV}(hc:cs[i]? = Zz c):∃ v,vs[i]? = Zz v/\R v c:=by
 have hi:i<cs.length:=(Zq.1 hc).1;have jy:i<vs.length:=by rw[h.len];exact hi
 exact⟨vs[i],Zb jy,h.each i _ c (Zb jy) hc⟩
theorem a_.drop{R:Value->AV->Prop}{vs:List Value}{cs:List AV}(h:a_ R vs cs)(n:Nat):a_ R (vs.drop n) (cs.drop n) :=
 ⟨by simp[h.len],λi v c hv hc=>h.each (n+i) v c (by simpa using hv) (by simpa using hc)⟩
theorem a_.take{R:Value->AV->Prop}{vs:List Value}{cs:List AV}(h:a_ R vs cs)(n:Nat):a_ R (vs.take n) (cs.take n) :=
 ⟨by simp[h.len],λi v c hv hc=>by
  rw[Zj] at hv hc;split at hv
  .rw[Qa1 ‹_›] at hc;exact h.each i v c hv hc
  .cases hv⟩
theorem a_.append{R:Value->AV->Prop}{vs us:List Value}{cs ds:List AV}(h:a_ R vs cs)(k:a_ R us ds):a_ R (vs++us) (cs++ds) :=
 ⟨by simp[h.len,k.len],λi v c hv hc=>by
  rw[List.getElem?_append] at hv hc;rw[h.len] at hv;split at hv
  .rw[Qa1 ‹_›] at hc;exact h.each i v c hv hc
  .rw[Qa0 ‹_›] at hc;exact k.each _ v c hv hc⟩
def bV:Value->Option Nat
 | .pointer (Zz a)=>Zz a.block
 | .slice (Zz a) _ cap=>if cap=0 then none else Zz a.block
 | .map (Zz r)=>Zz r
 | _=>none
section
variable (w:World) (p:bJ) (g:Nat->Value) (u:Nat->Prop)
inductive cY:Value->AV->Prop
 | mh {v:Value} {a:AV} (h:ca w p v a):cY v a
 | ptr {k off J:Nat} (hu:u k) (hg:g k = .pointer (Zz ⟨J,0,none⟩)):cY (.pointer (Zz ⟨J,off,none⟩)) (.ptr k off)
 | kQ {k i sz off J:Nat} (hu:u k) (hg:bV (g k)=Zz J):cY (.pointer (Zz ⟨J,i*sz+off,none⟩)) (.kQ k i sz off)
 | row {k:Nat} (hu:u k) (hs:∃ a l c,g k = .slice a l c):cY (g k) (.row k)
 | mp {k J:Nat} (hu:u k) (hg:g k = .map (Zz J)):cY (.map (Zz J)) (.mp k)
 | bR {k e sz:Nat} (hu:u k) (hs:∃ a l c,g k = .slice a l c):cY (g k) (.bR k e sz)
 | bP {k J b cap:Nat} {iM:List Nat} (hu:u k) (hg:g k = .pointer (Zz ⟨b,0,none⟩)) (h:∀ (j off:Nat),iM[j]? = Zz off->j<p J/\w.cell? ⟨J,j,none⟩=Zz (.pointer (Zz ⟨b,off,none⟩))):cY (.slice (Zz ⟨J,0,none⟩) iM.length cap) (.bP k iM)
 | rW {k J j off b:Nat} (hu:u k) (hg:g k = .pointer (Zz ⟨b,0,none⟩)) (hp:j<p J) (hc:w.cell? ⟨J,j,none⟩=Zz (.pointer (Zz ⟨b,off,none⟩))):cY (.pointer (Zz ⟨J,j,none⟩)) (.rW k off)
 | pre {k n J l cap:Nat} (hu:u k) (hg:g k = .slice (Zz ⟨J,0,none⟩) l cap) (hn:n<=l):cY (.slice (Zz ⟨J,0,none⟩) n cap) (.pre k n)
 | GF {k m J l cap:Nat} {a:Option Addr} (hu:u k) (hg:g k = .slice (Zz ⟨J,0,none⟩) l cap) (hm:m<=l) (ha:m=l\/a=Zz ⟨J,m,none⟩):cY (.slice a (l-m) (cap-m)) (.GF k m)
 | C4 {f:Nat} {vs us:Array Value} {fs cs:List (Nat×Nat)} (h1:vs.size=fs.length) (h2:us.size=cs.length)
   (hf:∀ (j k off:Nat),fs[j]? = Zz (k,off)->u k/\∃ J,g k = .pointer (Zz ⟨J,0,none⟩)/\vs[j]? = Zz (.pointer (Zz ⟨J,off,none⟩)))
   (hc:∀ (j k off:Nat),cs[j]? = Zz (k,off)->u k/\∃ J,g k = .pointer (Zz ⟨J,0,none⟩)/\us[j]? = Zz (.pointer (Zz ⟨J,off,none⟩))):cY (.func (.func f) vs us) (.C4 f fs cs)
def xo(v:Value)(a:AV):Prop :=
 cY w p g u v a\/∃ df cs,v = .agg df/\a = .agg cs/\a_ (cY w p g u) df.toList cs
def bE(v:Value)(a:AV):Prop :=
 a = .undef\/xo w p g u v a\/∃ df as,v = .tuple df/\a = .aQ as/\a_ (xo w p g u) df.toList as
end
structure c8 (w:World) (p:bJ) (g:Nat->Value) (u:Nat->Prop) (w':World) (p':bJ) (g':Nat->Value) (u':Nat->Prop):Prop where
 mK:∀ J,p J<=p' J
 cell:∀ J i,i<p J->w'.cell? ⟨J,i,none⟩=w.cell? ⟨J,i,none⟩
 gk:∀ k,u k->g' k=g k
 uk:∀ k,u k->u' k
theorem ca.mono{w w':World}{p p':bJ}(hp:∀ J,p J<=p' J)(hc:∀ J i,i<p J->w'.cell? ⟨J,i,none⟩=w.cell? ⟨J,i,none⟩){v:Value}{a:AV}(h:ca w p v a):ca w' p' v a:=by
 induction h with
 | int hk=>exact .int hk
 | u8=>exact .u8
 | bool=>exact .bool
 | str h=>exact .str h
 | bs J off hl nZ ha h=>exact .bs J off hl nZ ha λi b hb=>⟨Zf (h i b hb).1 (hp J),(hc J _ (h i b hb).1).trans (h i b hb).2⟩
 | sl J off vs hl nZ fV ha h _ ih=>exact .sl J off vs hl nZ fV ha (λj c hj=>⟨Zf (h j c hj).1 (hp J),(hc J _ (h j c hj).1).trans (h j c hj).2⟩) ih
 | dq=>exact .dq
 | nL=>exact .nL
 | FV=>exact .FV
 | ym=>exact .ym
 | fn=>exact .fn
 | k_ vs h _ ih=>exact .k_ vs (λj c hj=>⟨Zf (h j c hj).1 (hp _),(hc _ _ (h j c hj).1).trans (h j c hj).2⟩) ih
section
variable {w w':World} {p p':bJ} {g g':Nat->Value} {u u':Nat->Prop}
theorem c8.refl:c8 w p g u w p g u:=⟨λ_=>Zd _,λ_ _ _=>rfl,λ_ _=>rfl,λ_ h=>h⟩
theorem c8.trans{w'':World}{p'':bJ}{g'':Nat->Value}{u'':Nat->Prop}(h:c8 w p g u w' p' g' u')(k:c8 w' p' g' u' w'' p'' g'' u''):c8 w p g u w'' p'' g'' u'' :=
 ⟨λJ=>Nat.le_trans (h.mK J) (k.mK J),λJ i hi=>(k.cell J i (Zf hi (h.mK J))).trans (h.cell J i hi),λx hx=>(k.gk x (h.uk x hx)).trans (h.gk x hx),λx hx=>k.uk x (h.uk x hx)⟩
theorem c8.vO(m:c8 w p g u w' p' g' u'){v:Value}{a:AV}(h:ca w p v a):ca w' p' v a:=h.mono m.mK m.cell
theorem c8.DG(m:c8 w p g u w' p' g' u'){v:Value}{a:AV}(h:cY w p g u v a):cY w' p' g' u' v a:=by
 cases h with
 | mh h=>exact .mh (m.vO h)
 | ptr hu hg=>exact .ptr (m.uk _ hu) ((m.gk _ hu).trans hg)
 | kQ hu hg=>exact .kQ (m.uk _ hu) (by rw[m.gk _ hu];exact hg)
 | row hu hs=>rw[<-m.gk _ hu];exact .row (m.uk _ hu) (by rw[m.gk _ hu];exact hs)
 | mp hu hg=>exact .mp (m.uk _ hu) ((m.gk _ hu).trans hg)
 | bR hu hs=>rw[<-m.gk _ hu];exact .bR (m.uk _ hu) (by rw[m.gk _ hu];exact hs)
 | bP hu hg h=>exact .bP (m.uk _ hu) ((m.gk _ hu).trans hg) λj off hj=>⟨Zf (h j off hj).1 (m.mK _),(m.cell _ _ (h j off hj).1).trans (h j off hj).2⟩
 | rW hu hg hp hc=>exact .rW (m.uk _ hu) ((m.gk _ hu).trans hg) (Zf hp (m.mK _)) ((m.cell _ _ hp).trans hc)
 | pre hu hg hn=>exact .pre (m.uk _ hu) ((m.gk _ hu).trans hg) hn
 | GF hu hg hm ha=>exact .GF (m.uk _ hu) ((m.gk _ hu).trans hg) hm ha
 | C4 h1 h2 hf hc=>exact .C4 h1 h2 (λj k off hj=>by obtain⟨hu,J,hg,hv⟩:=hf j k off hj;exact⟨m.uk _ hu,J,(m.gk _ hu).trans hg,hv⟩) (λj k off hj=>by obtain⟨hu,J,hg,hv⟩:=hc j k off hj;exact⟨m.uk _ hu,J,(m.gk _ hu).trans hg,hv⟩)
theorem c8.N0(m:c8 w p g u w' p' g' u'){v:Value}{a:AV}(h:xo w p g u v a):xo w' p' g' u' v a:=by
 rcases h with h | ⟨df,cs,rfl,rfl,h⟩
 .exact .inl (m.DG h)
 .exact .inr ⟨df,cs,rfl,rfl,h.imp λ_ _=>m.DG⟩
theorem c8.AC(m:c8 w p g u w' p' g' u'){v:Value}{a:AV}(h:bE w p g u v a):bE w' p' g' u' v a:=by
 rcases h with h | h | ⟨df,cs,rfl,rfl,h⟩
 .exact .inl h
 .exact .inr (.inl (m.N0 h))
 .exact .inr (.inr ⟨df,cs,rfl,rfl,h.imp λ_ _=>m.N0⟩)
end
def lU(w:World)(B e size:Nat)(v:Value)(n:Nat)(xs:List Value):Prop :=
 xs.length=n*size/\((n=0/\∃ a,v = .slice a 0 0) \/
  ∃ J cap kC,v = .slice (Zz ⟨J,0,none⟩) n cap/\0<cap/\B<=J/\w.heap[J]? = Zz (.cells kC e (0,0))/\n<=cap/\cap<=maxLen/\kC.size=cap*size/\kC.toList.take (n*size)=xs)
def used(st:Nat->bM)(k:Nat):Prop:=st k ≠ .free
def wu(w:World)(p:bJ)(J e sz cap:Nat)(els:List AV):Prop :=
 0<sz/\(∀ x∈els,x.cells.length=sz)/\0<cap/\els.length<=cap/\cap<=maxLen/\p J=0/\∃ kC vs,w.heap[J]? = Zz (.cells kC e (0,0))/\kC.size=cap*sz/\vs.length=els.length*sz/\kC.toList.take (els.length*sz)=vs/\a_ (ca w p) vs (els.flatMap AV.cells)
def yZ(w:World)(p:bJ)(s:Bool)(kd:IntKind)(es:Array MapEntry)(els:List AV):Prop :=
 es.size=els.length/\∀ (i:Nat) (e:MapEntry) (a:AV),es[i]? = Zz e->els[i]? = Zz a->∃ ka va,a = .aQ [ka,va]/\qJ s kd ka=Zn/\ca w p e.key ka/\(ca w p e.val va\/∃ df cs,e.val = .agg df/\va = .agg cs/\a_ (ca w p) df.toList cs)
theorem wu.jq{w w':World}{p p':bJ}{J e sz cap:Nat}{els:List AV}(h:wu w p J e sz cap els)(hr:∀ v a,ca w p v a->ca w' p' v a)(e1:w'.heap[J]? = w.heap[J]?)(e2:p' J=p J):wu w' p' J e sz cap els:=by
 obtain⟨h1,h2,h3,h4,h5,h6,kC,vs,h7,h8,h9,U5,YJ⟩:=h;exact⟨h1,h2,h3,h4,h5,e2.trans h6,kC,vs,e1.trans h7,h8,h9,U5,YJ.imp hr⟩
theorem yZ.mono{w w':World}{p p':bJ}{s:Bool}{kd:IntKind}{es:Array MapEntry}{els:List AV}(h:yZ w p s kd es els)(hr:∀ v a,ca w p v a->ca w' p' v a):yZ w' p' s kd es els:=by
 refine⟨h.1,λi e a he ha=> ?_⟩;obtain⟨ka,va,h1,h2,h3,h4⟩:=h.2 i e a he ha;refine⟨ka,va,h1,h2,hr _ _ h3,?_⟩;rcases h4 with h4 | ⟨df,cs,e1,e2,e3⟩
 .exact .inl (hr _ _ h4)
 .exact .inr ⟨df,cs,e1,e2,e3.imp hr⟩
def nM(w:World)(p:bJ)(g:Nat->Value)(u:Nat->Prop)(B:Nat)(M:Nat->Prop)(k:Nat):bM->Prop
 | .free=>True
 | .dead=>True
 | .cells cs=>∃ J c e,g k = .pointer (Zz ⟨J,0,none⟩)/\(M J\/B<=J)/\w.heap[J]? = Zz (.cells c e (0,0))/\a_ (cY w p g u) c.toList cs/\p J=0
 | .jx l iO=>∃ J c e,g k = .pointer (Zz ⟨J,0,none⟩)/\B<=J/\w.heap[J]? = Zz (.cells c e (0,0))/\c.toList=l.map ku/\p J<=l.length/\(iO=Zv->p J=0)
 | .fg e l iO=>lU w B e 1 (g k) l.length (l.map ku)/\∀ J,bV (g k)=Zz J->p J<=l.length/\(iO=Zv->p J=0)
 | .dG e sz els iO=>0<sz/\(∀ x∈els,x.cells.length=sz)/\∃ vs,lU w B e sz (g k) els.length vs/\a_ (ca w p) vs (els.flatMap AV.cells) /\
   ∀ J,bV (g k)=Zz J->p J<=els.length*sz/\(iO=Zv->p J=0)
 | .oK s kd els=>∃ J es clock,g k = .map (Zz J)/\B<=J/\w.heap[J]? = Zz (.map es clock)/\yZ w p s kd es els/\p J=0
 | .jh e sz els=>∃ J cap,g k = .slice (Zz ⟨J,0,none⟩) els.length cap/\(M J\/B<=J)/\wu w p J e sz cap els
def bM.live:bM->Prop
 | .free=>False
 | .dead=>False
 | _=>True
structure cp (B:Nat) (M:Nat->Prop) (w0:World) (p0:bJ) (w:World) (p:bJ) (g:Nat->Value) (st:Nat->bM):Prop where
 os:w.os=w0.os
 tape:w.tape=w0.tape
 output:w.output=w0.output
 size:B<=w.heap.size
 old:∀ J,J<B->¬ M J->w.heap[J]? = w0.heap[J]?
 nI:∀ k,nM w p g (used st) B M k (st k)
 tF:∀ k k' J,k≠k'->(st k).live->(st k').live->bV (g k)=Zz J->bV (g k')≠Zz J
 nk:∀ J,w.heap.size<=J->p J=0
 NE:∀ J,J<B->p J=p0 J
theorem fH{w:World}{J i:Nat}{c:Array Value}{e:TypeId}{f:Nat×Nat}(h:w.heap[J]? = Zz (.cells c e f)):w.cell? ⟨J,i,none⟩=c[i]? := by
 simp[World.cell?,h]
theorem mf{w:World}{J:Nat}{o:Obj}(h:w.heap[J]? = Zz o):J<w.heap.size:=(Array.getElem?_eq_some_iff.1 h).1
theorem py{w w':World}{J:Nat}(h:w'.heap[J]? = w.heap[J]?)(i:Nat):w'.cell? ⟨J,i,none⟩=w.cell? ⟨J,i,none⟩:=by
 simp[World.cell?,h]
theorem aT{J:Type}(f:Nat->J)(k:Nat)(b:J):cX f k b k=b:=by simp[cX]
theorem cg{J:Type}(f:Nat->J){k x:Nat}(b:J)(h:x≠k):cX f k b x=f x:=by
 have hb:Zy x k=Zv:=by
  cases hb:Zy x k
  .rfl
  .exact absurd (Zx hb) h
 simp[cX,hb]
theorem lU.jq{w w':World}{B e size:Nat}{v:Value}{n:Nat}{xs:List Value}(h:lU w B e size v n xs)(hk:∀ J,bV v=Zz J->w'.heap[J]? = w.heap[J]?):lU w' B e size v n xs:=by
 obtain⟨hl,h | ⟨J,cap,kC,rfl,h0,hB,hh,r⟩⟩:=h
 .exact⟨hl,.inl h⟩
 .exact⟨hl,.inr ⟨J,cap,kC,rfl,h0,hB,by rw[hk J (by simp[bV];omega)];exact hh,r⟩⟩
theorem nM.jq{w w':World}{p p':bJ}{g g':Nat->Value}{u u':Nat->Prop}{B:Nat}{M:Nat->Prop}{k:Nat}{b:bM}(h:nM w p g u B M k b)(m:c8 w p g u w' p' g' u')(hu:u k)
  (hk:∀ J,bV (g k)=Zz J->w'.heap[J]? = w.heap[J]? /\ p' J=p J):nM w' p' g' u' B M k b:=by
 have hg:=m.gk k hu;cases b with
 | free=>trivial
 | dead=>trivial
 | cells cs =>
  obtain⟨J,c,e,h1,h2,h3,h4,h5⟩:=h;obtain⟨e1,e2⟩:=hk J (by rw[h1];rfl);exact⟨J,c,e,hg.trans h1,h2,e1.trans h3,h4.imp λ_ _=>m.DG,e2.trans h5⟩
 | jx l iO =>
  obtain⟨J,c,e,h1,h2,h3,h4,h5,h6⟩:=h;obtain⟨e1,e2⟩:=hk J (by rw[h1];rfl);exact⟨J,c,e,hg.trans h1,h2,e1.trans h3,h4,by rw[e2];exact h5,λx=>e2.trans (h6 x)⟩
 | fg e l iO =>
  obtain⟨h1,h2⟩:=h;refine⟨by rw[hg];exact h1.jq λJ hb=>(hk J hb).1,λJ hb=> ?_⟩;rw[hg] at hb;rw[(hk J hb).2];exact h2 J hb
 | dG e sz els iO =>
  obtain⟨h0,h1,vs,h2,h3,h4⟩:=h;refine⟨h0,h1,vs,by rw[hg];exact h2.jq λJ hb=>(hk J hb).1,h3.imp λ_ _=>m.vO,λJ hb=> ?_⟩;rw[hg] at hb;rw[(hk J hb).2];exact h4 J hb
 | oK s kd els =>
  obtain⟨J,es,clock,h1,h2,h3,h4,h5⟩:=h;obtain⟨e1,e2⟩:=hk J (by rw[h1];rfl);exact⟨J,es,clock,hg.trans h1,h2,e1.trans h3,h4.mono λ_ _=>m.vO,e2.trans h5⟩
 | jh e sz els =>
  obtain⟨J,cap,h1,h2,h3⟩:=h;obtain⟨e1,e2⟩:=hk J (by rw[h1];have:=h3.2.2.1;simp[bV];omega);exact⟨J,cap,hg.trans h1,h2,h3.jq (λ_ _=>m.vO) e1 e2⟩
theorem pz{st:Nat->bM}{k:Nat}(h:(st k).live):used st k:=λe=>by rw[e] at h;exact h
theorem nM.vJ{w:World}{p:bJ}{g:Nat->Value}{u:Nat->Prop}{B:Nat}{M:Nat->Prop}{k:Nat}{b:bM}(h:nM w p g u B M k b)(hl:b.live){J:Nat}(hv:bV (g k)=Zz J):J<w.heap.size:=by
 cases b with
 | free=>exact hl.elim
 | dead=>exact hl.elim
 | cells cs=>obtain⟨β',c,e,h1,h2,h3,_⟩:=h;rw[h1] at hv;cases hv;exact mf h3
 | jx l iO=>obtain⟨β',c,e,h1,h2,h3,_⟩:=h;rw[h1] at hv;cases hv;exact mf h3
 | fg e l iO =>
  obtain⟨⟨_,⟨_,a,h⟩ | ⟨β',cap,kC,h,h0,hB,hh,_⟩⟩,_⟩:=h
  .rw[h] at hv;cases a<;>simp[bV] at hv
  .rw[h] at hv;have:β'=J:=by simp[bV] at hv;exact hv.2
   subst this;exact mf hh
 | dG e sz els iO =>
  obtain⟨_,_,vs,⟨_,⟨_,a,h⟩ | ⟨β',cap,kC,h,h0,hB,hh,_⟩⟩,_⟩:=h
  .rw[h] at hv;cases a<;>simp[bV] at hv
  .rw[h] at hv;have:β'=J:=by simp[bV] at hv;exact hv.2
   subst this;exact mf hh
 | oK s kd els=>obtain⟨β',es,clock,h1,h2,h3,_⟩:=h;rw[h1] at hv;cases hv;exact mf h3
 | jh e sz els =>
  obtain⟨β',cap,h1,h2,h3,h4,h5,h6,h7,h8,kC,vs,h9,_⟩:=h;rw[h1] at hv;have:β'=J:=by simp[bV] at hv;exact hv.2
  subst this;exact mf h9
theorem cp.change{B:Nat}{M:Nat->Prop}{w0:World}{p0:bJ}{w w':World}{p p':bJ}{g g':Nat->Value}{st st':Nat->bM}(h:cp B M w0 p0 w p g st)
  (VK:w'.os=w.os) (BA:w'.tape=w.tape) (FB:w'.output=w.output) (fV:w.heap.size<=w'.heap.size)
  (K D:Nat->Prop) (dJ:∀ k,¬ K k->st' k=st k) (hu:∀ k,used st k->used st' k) (hg:∀ k,used st k->g' k=g k)
  (pY:∀ J,J<w.heap.size->¬ D J->w'.heap[J]? = w.heap[J]? /\ p' J=p J)
  (hD:∀ J,D J->J<B->M J/\p' J=p J)
  (uE:∀ J,p J<=p' J) (hcell:∀ J i,i<p J->w'.cell? ⟨J,i,none⟩=w.cell? ⟨J,i,none⟩)
  (HI:∀ J,w'.heap.size<=J->p' J=0)
  (YV:∀ k J,¬ K k->(st k).live->bV (g k)=Zz J->¬ D J)
  (hK:∀ k,K k->nM w' p' g' (used st') B M k (st' k))
  (T6:∀ k k' J,K k->k'≠k->(st' k).live->(st' k').live->bV (g' k)=Zz J->bV (g' k')≠Zz J) :
  cp B M w0 p0 w' p' g' st'/\c8 w p g (used st) w' p' g' (used st'):=by
 have hm:c8 w p g (used st) w' p' g' (used st'):=⟨uE,hcell,hg,hu⟩;refine⟨⟨VK.trans h.os,BA.trans h.tape,FB.trans h.output,Nat.le_trans h.size fV,λJ hβ hM=> ?_,λk=> ?_,λk k' J ii hl tj hv=> ?_,HI,λJ hβ=> ?_⟩,hm⟩
 .have hnD:¬ D J:=λhd=>hM (hD J hd hβ).1;exact(pY J (Zf hβ h.size) hnD).1.trans (h.old J hβ hM)
 .by_cases hk:K k
  .exact hK k hk
  .have hs:=dJ k hk;rw[hs];by_cases hl:(st k).live
   .exact(h.nI k).jq hm (pz hl) λJ hv=>pY J ((h.nI k).vJ hl hv) (YV k J hk hl hv)
   .cases hb:st k<;>first | trivial | (rw[hb] at hl;exact absurd trivial hl)
 .by_cases hk:K k
  .exact T6 k k' J hk (Ne.symm ii) hl tj hv
  .by_cases qo:K k'
   .intro BB;exact T6 k' k J qo ii tj hl BB hv
   .rw[dJ k hk] at hl;rw[dJ k' qo] at tj;rw[hg k (pz hl)] at hv;rw[hg k' (pz tj)];exact h.tF k k' J ii hl tj hv
 .by_cases hd:D J
  .exact(hD J hd hβ).2.trans (h.NE J hβ)
  .exact(pY J (Zf hβ h.size) hd).2.trans (h.NE J hβ)
section
variable {B:Nat} {M:Nat->Prop} {w0:World} {p0:bJ} {w w':World} {p p':bJ} {g:Nat->Value} {st:Nat->bM}
theorem qm{t:Nat}{b:bM}(hb:b ≠ .free){k:Nat}(h:used st k):used (cX st t b) k:=by
 by_cases e:k=t
 .subst e;unfold used;rw[aT];exact hb
 .unfold used;rw[cg _ _ e];exact h
theorem cp.add(h:cp B M w0 p0 w p g st){t:Nat}{b:bM}{v:Value}(ht:st t = .free)(hb:b ≠ .free)
  (VK:w'.os=w.os) (BA:w'.tape=w.tape) (FB:w'.output=w.output) (fV:w.heap.size<=w'.heap.size)
  (pY:∀ J,J<w.heap.size->w'.heap[J]? = w.heap[J]? /\ p' J=p J) (uE:∀ J,p J<=p' J) (HI:∀ J,w'.heap.size<=J->p' J=0)
  (hv:∀ J,bV v=Zz J->w.heap.size<=J)
  (hB:c8 w p g (used st) w' p' (cX g t v) (used (cX st t b))->nM w' p' (cX g t v) (used (cX st t b)) B M t b) :
  cp B M w0 p0 w' p' (cX g t v) (cX st t b)/\c8 w p g (used st) w' p' (cX g t v) (used (cX st t b)):=by
 have hu:∀ k,used st k->used (cX st t b) k:=λk hk=>qm hb hk;have hg:∀ k,used st k->cX g t v k=g k:=λk hk=>cg _ _ (λe=>by subst e;exact hk ht);have hcell:∀ J i,i<p J->w'.cell? ⟨J,i,none⟩=w.cell? ⟨J,i,none⟩:=λJ i hi=>by
  rcases Nat.lt_or_ge J w.heap.size with fY | Bt
  .exact py (pY J fY).1 i
  .rw[h.nk J Bt] at hi;omega
 refine h.change VK BA FB fV (λk=>k=t) (λ_=>False) (λk hk=>cg _ _ hk) hu hg (λJ hβ _=>pY J hβ) (λ_ hd=>hd.elim) uE hcell HI (λ_ _ _ _ _ hd=>hd.elim) ?_ ?_
 .rintro k rfl;rw[aT];exact hB ⟨uE,hcell,hg,hu⟩
 .rintro k k' J rfl ii _ tj L5 ox;rw[aT] at L5;rw[cg _ _ ii] at tj ox;have h1:=hv J L5;have h2:=(h.nI k').vJ tj ox;omega
theorem cp.modify(h:cp B M w0 p0 w p g st){k:Nat}{b:bM}{β₀:Nat}(hk:(st k).live)(hb:b.live)(hβ:bV (g k)=Zz β₀)
  (VK:w'.os=w.os) (BA:w'.tape=w.tape) (FB:w'.output=w.output) (fV:w'.heap.size=w.heap.size)
  (pY:∀ J,J≠β₀->w'.heap[J]? = w.heap[J]? /\ p' J=p J) (hB0:β₀<B->M β₀/\p' β₀=p β₀)
  (uE:p β₀<=p' β₀) (hcell:∀ i,i<p β₀->w'.cell? ⟨β₀,i,none⟩=w.cell? ⟨β₀,i,none⟩)
  (hB:c8 w p g (used st) w' p' g (used (cX st k b))->nM w' p' g (used (cX st k b)) B M k b) :
  cp B M w0 p0 w' p' g (cX st k b)/\c8 w p g (used st) w' p' g (used (cX st k b)):=by
 have M0:b ≠ .free:=λe=>by rw[e] at hb;exact hb
 have hu:∀ j,used st j->used (cX st k b) j:=λj hj=>qm M0 hj;have fY:β₀<w.heap.size:=(h.nI k).vJ hk hβ;have PE:∀ J,p J<=p' J:=λJ=>by
  by_cases e:J=β₀
  .subst e;exact uE
  .rw[(pY J e).2];exact Zd _
 have Pr:∀ J i,i<p J->w'.cell? ⟨J,i,none⟩=w.cell? ⟨J,i,none⟩:=λJ i hi=>by
  by_cases e:J=β₀
  .subst e;exact hcell i hi
  .exact py (pY J e).1 i
 refine h.change VK BA FB (by omega) (λj=>j=k) (λJ=>J=β₀) (λj hj=>cg _ _ hj) hu (λ_ _=>rfl) (λJ _ hd=>pY J hd) (λJ hd hlB=>by subst hd;exact hB0 hlB) PE Pr ?_ ?_ ?_ ?_
 .intro J hβ;rw[(pY J (by omega)).2];exact h.nk J (by omega)
 .rintro j J hj hl hv rfl;exact h.tF j k J hj hl hk hv hβ
 .rintro j rfl;rw[aT];exact hB ⟨PE,Pr,λ_ _=>rfl,hu⟩
 .rintro j j' J rfl ii _ tj L5 ox;rw[cg _ _ ii] at tj;exact h.tF j j' J (Ne.symm ii) hk tj L5 ox
end
end Go.Abs
/- The types' facts; constants; operations that touch no memory. -/
namespace Go.Abs
theorem bA{P:Program}{t:Nat}{i:TI}(h:fh P t=Zz i):∃ info z,P.info? t=Zz info/\info.size=i.size/\info.bytes=i.bytes/\info.zero=Zz z/\ph z.cells.toList=Zz i.zero/\i.zero.length=i.size/\i.ie.length=i.size/\hY P t=Zz i.kind/\LM P 20 t=Zz i.ie/\i.Xc=(if P.eqGuardType P.depth t=Zv then(vW P 20 t).getD [] else[]):=by
 unfold fh at h;split at h
 .rename_i info k ie h1 h2 h3;cases hz:info.zero with
  | none=>simp[hz] at h
  | some z =>
   cases hc:ph z.cells.toList with
   | none=>simp[hz,hc] at h
   | some cs =>
    simp only[hz,Option.bind_some,hc] at h;split at h
    .rename_i hl;simp at hl;cases h;exact⟨info,z,h1,rfl,rfl,hz,hc,hl.1.1,hl.1.2,h2,h3,rfl⟩
    .cases h
 .cases h
theorem Nw{P:Program}{t:Nat}{i:TI}(h:fh P t=Zz i):∃ info,P.info? t=Zz info/\GB info.zero i.kind=Zn:=by
 unfold fh at h;split at h
 .rename_i info k ie h1 h2 h3;split at h
  .split at h
   .rename_i hl;simp only[Zp] at hl;cases h;exact⟨info,h1,hl.2⟩
   .cases h
  .cases h
 .cases h
theorem eO{P:Program}{t e:Nat}{b:Bool}(h:hY P t=Zz (.slice e b)):P.underlying t=Zz (.slice e)/\b=Dv P e:=by grind [hY]
theorem rM{P:Program}{t n e:Nat}{b:Bool}(h:hY P t=Zz (.df n e b)):P.underlying t=Zz (.array n e)/\b=Dv P e:=by grind [hY]
theorem PW{P:Program}{t e:Nat}(h:hY P t=Zz (.ptr e)):P.underlying t=Zz (.pointer e):=by grind [hY]
theorem nh{P:Program}{t:Nat}(h:hY P t=Zz .str):P.underlying t=Zz .string:=by grind [hY]
theorem D'{P:Program}{t:Nat}(h:hY P t=Zz .bool):P.underlying t=Zz .bool:=by grind [hY]
theorem Md{P:Program}{t:Nat}(h:hY P t=Zz .u8):P.underlying t=Zz (.int .u8):=by grind [hY]
theorem BO{P:Program}{t:Nat}{k:IntKind}(h:hY P t=Zz (.int k)):P.underlying t=Zz (.int k)/\k ≠ .u8:=by grind [hY]
theorem oH {P : Program} {t : Nat} {fs : List (Nat × Nat)} (h : hY P t = Zz (.struct fs)) : ∃ fields, P.underlying t = Zz (.struct fields) ∧ (∀ f ∈ fields.toList, sized P f.type = Zn ∧ f.name ≠ "_") ∧ fs = fields.toList.map λf => (f.offset, f.type) := by grind [hY]
theorem yc{P:Program}{t k e:Nat}(h:hY P t=Zz (.map k e)):P.underlying t=Zz (.map k e):=by grind [hY]
theorem Ky{P:Program}{t:Nat}(h:hY P t=Zz .other):∃ a b c,P.underlying t=Zz (.func a b c):=by grind [hY]
theorem jp{P:Program}{e:Nat}(h:Dv P e=Zn):P.underlying e=Zz (.int .u8)/\∃ info,P.info? e=Zz info/\info.size=1/\info.bytes=1/\info.zero=Zz (.int .u8 0):=by
 unfold Dv at h;split at h
 .rename_i i h1 h2;simp only[Zp,Qb1] at h;refine⟨h1,i,h2,h.1.1,h.1.2,?_⟩;have h3:=h.2;split at h3
  .assumption
  .cases h3
 .cases h
theorem pD{P:Program}{t:Nat}{k:TK}(h:hY P t=Zz k)(w:World):(isAgg t).run P w = .ok (dv k) w:=by
 unfold isAgg;cases k with
 | int k=>simp[run_underlying (BO h).1,dv]
 | u8=>simp[run_underlying (Md h),dv]
 | bool=>simp[run_underlying (D' h),dv]
 | str=>simp[run_underlying (nh h),dv]
 | slice e b=>simp[run_underlying (eO h).1,dv]
 | df n e b=>simp[run_underlying (rM h).1,dv]
 | struct fs=>obtain⟨fields,hu,_⟩:=oH h;simp[run_underlying hu,dv]
 | ptr e=>simp[run_underlying (PW h),dv]
 | map a b=>simp[run_underlying (yc h),dv]
 | other=>obtain⟨a,b,c,hu⟩:=Ky h;simp[run_underlying hu,dv]
theorem run_sizeOf{P:Program}{t:Nat}{info:TypeInfo}(h:P.info? t=Zz info)(w:World):(sizeOf t).run P w = .ok info.size w:=by
 simp[sizeOf,typeInfo,h]
theorem ji{P:Program}{t:Nat}{info:TypeInfo}{z:Value}(h:P.info? t=Zz info)(hz:info.zero=Zz z)(w:World):(zeroValue t).run P w = .ok z w:=by
 simp[zeroValue,typeInfo,h,hz]
theorem Qb{k:IntKind}(hk:k ≠ .u8)(n:Int):oL k n = .int k n:=by cases k<;>first | rfl | exact absurd rfl hk
theorem hZ{w:World}{p:bJ}{k:IntKind}{n:Int}(h:k = .u8->0<=n/\n<256):ca w p (.int k n) (oL k n):=by
 by_cases hk:k = .u8
 .subst hk;obtain⟨h0,h1⟩:=h rfl;have e:(Value.int .u8 n)=ku (UInt8.ofNat n.toNat):=by
   unfold ku;congr 1;rw[UInt8.toNat_ofNat'];omega
  rw[e];exact .u8
 .rw[Qb hk];exact .int hk
theorem wrap_u8(n:Int):0<=IntKind.u8.wrap n/\IntKind.u8.wrap n<256:=by
 unfold IntKind.wrap;simp[IntKind.bits,IntKind.signed];omega
theorem B7{w:World}{p:bJ}{v:Value}{a:AV}(h:F0 v=Zz a):ca w p v a:=by
 unfold F0 at h;split at h
 .cases h;exact .bool
 .rename_i k n;split at h
  .cases hc:(Zw (0<=n)&&Zw (n<256)) with
   | false=>simp[hc] at h
   | true =>
    rw[hc] at h;have h':AV.u8 (UInt8.ofNat n.toNat)=a:=by simpa using h
    subst h';simp at hc;exact hZ (k := .u8) λ_=>hc
  .rename_i hk;cases h;exact .int λe=>hk e
 .cases h;exact .str rfl
 .cases h;exact .dq
 .cases h;exact .nL
 .cases h;exact .FV
 .cases h;exact .ym
 .cases h
theorem gw{w:World}{p:bJ}:∀ {vs:List Value} {as:List AV},ph vs=Zz as->a_ (ca w p) vs as
 | [],as,h=>by simp[ph] at h;subst h;exact .nil
 | v::r,as,h=>by
  simp only[ph] at h;split at h
  .rename_i a l h1 h2;cases h;exact .cons (B7 h1) (gw h2)
  .cases h
section
variable {w:World} {p:bJ} {g:Nat->Value} {u:Nat->Prop}
theorem NC{v:Value}{a:AV}(h:Qi v=Zz a):bE w p g u v a:=by
 unfold Qi at h;split at h
 .rename_i cs;cases hc:ph cs.toList with
  | none=>simp[hc] at h
  | some l =>
   simp[hc] at h;subst h;exact .inr (.inl (.inr ⟨cs,l,rfl,rfl,(gw hc).imp λ_ _ => .mh⟩))
 .exact .inr (.inl (.inl (.mh (B7 h))))
theorem ca.tY{v:Value}{a:AV}(h:ca w p v a):v.cells = #[v]/\v.oneCell'=Zn/\a.cells=[a]/\a.ef=Zn:=by
 cases h<;>simp[Value.cells,Value.oneCell',AV.cells,AV.ef,ku]
theorem cY.tY{v:Value}{a:AV}(h:cY w p g u v a):v.cells = #[v]/\v.oneCell'=Zn/\a.cells=[a]/\a.ef=Zn:=by
 cases h with
 | mh h=>exact h.tY
 | ptr=>simp[Value.cells,Value.oneCell',AV.cells,AV.ef]
 | kQ=>simp[Value.cells,Value.oneCell',AV.cells,AV.ef]
 | row hu hs=>obtain⟨a,l,c,e⟩:=hs;rw[e];simp[Value.cells,Value.oneCell',AV.cells,AV.ef]
 | mp=>simp[Value.cells,Value.oneCell',AV.cells,AV.ef]
 | bR hu hs=>obtain⟨a,l,c,e⟩:=hs;rw[e];simp[Value.cells,Value.oneCell',AV.cells,AV.ef]
 | bP=>simp[Value.cells,Value.oneCell',AV.cells,AV.ef]
 | rW=>simp[Value.cells,Value.oneCell',AV.cells,AV.ef]
 | pre=>simp[Value.cells,Value.oneCell',AV.cells,AV.ef]
 | GF=>simp[Value.cells,Value.oneCell',AV.cells,AV.ef]
 | C4=>simp[Value.cells,Value.oneCell',AV.cells,AV.ef]
theorem bE.cells{v:Value}{a:AV}(h:bE w p g u v a)(hc:a.cells.all AV.ef=Zn):a_ (cY w p g u) v.cells.toList a.cells:=by
 rcases h with rfl | (h | ⟨df,cs,rfl,rfl,h⟩) | ⟨df,cs,rfl,rfl,h⟩
 .simp[AV.cells,AV.ef] at hc
 .rw[h.tY.1,h.tY.2.2.1];exact .cons h .nil
 .exact h
 .simp[AV.cells,AV.ef] at hc
theorem a_.one{vs:List Value}{cs:List AV}(h:a_ (cY w p g u) vs cs):∀ v∈vs,v.oneCell'=Zn:=by
 intro v hv;obtain⟨i,hi⟩:=List.getElem?_of_mem hv;have fY:i<cs.length:=by rw[<-h.len];exact(Zq.1 hi).1
 exact(h.each i v _ hi (Zb fY)).tY.2.1
theorem a_.Wa{vs:List Value}{cs:List AV}(h:a_ (ca w p) vs cs):∀ v∈vs,v.oneCell'=Zn:=by
 intro v hv;obtain⟨i,hi⟩:=List.getElem?_of_mem hv;have fY:i<cs.length:=by rw[<-h.len];exact(Zq.1 hi).1
 exact(h.each i v _ hi (Zb fY)).tY.2.1
theorem bE.int{v:Value}{k:IntKind}{n:Int}(h:bE w p g u v (.int k n)):v = .int k n/\k ≠ .u8:=by
 rcases h with h | (h | ⟨df,cs,_,h,_⟩) | ⟨df,cs,_,h,_⟩<;>first | cases h
 rename_i h;cases h;exact⟨rfl,by assumption⟩
theorem bE.u8{v:Value}{b:UInt8}(h:bE w p g u v (.u8 b)):v=ku b:=by
 rcases h with h | (h | ⟨df,cs,_,h,_⟩) | ⟨df,cs,_,h,_⟩<;>first | cases h
 rename_i h;cases h;rfl
theorem bE.bool{v:Value}{b:Bool}(h:bE w p g u v (.bool b)):v = .bool b:=by
 rcases h with h | (h | ⟨df,cs,_,h,_⟩) | ⟨df,cs,_,h,_⟩<;>first | cases h
 rename_i h;cases h;rfl
theorem bE.str{v:Value}{l:List UInt8}(h:bE w p g u v (.str l)):∃ s:ByteArray,v = .string s/\s.data.toList=l:=by
 rcases h with h | (h | ⟨df,cs,_,h,_⟩) | ⟨df,cs,_,h,_⟩<;>first | cases h
 rename_i h;cases h;exact⟨_,rfl,by assumption⟩
theorem bE.bs{v:Value}{l:List UInt8}(h:bE w p g u v (.bs l)):ca w p v (.bs l):=by
 rcases h with h | (h | ⟨df,cs,_,h,_⟩) | ⟨df,cs,_,h,_⟩<;>first | cases h
 assumption
theorem bE.sl{v:Value}{z:Nat}{l:List AV}(h:bE w p g u v (.sl z l)):ca w p v (.sl z l):=by
 rcases h with h | (h | ⟨df,cs,_,h,_⟩) | ⟨df,cs,_,h,_⟩<;>first | cases h
 assumption
theorem bE.dq{v:Value}(h:bE w p g u v .dq):∃ a,v = .slice a 0 0:=by
 rcases h with h | (h | ⟨df,cs,_,h,_⟩) | ⟨df,cs,_,h,_⟩<;>first | cases h
 rename_i h;cases h;exact⟨_,rfl⟩
theorem bE.row{v:Value}{k:Nat}(h:bE w p g u v (.row k)):u k/\v=g k/\∃ a l c,g k = .slice a l c:=by
 rcases h with h | (h | ⟨df,cs,_,h,_⟩) | ⟨df,cs,_,h,_⟩<;>first | cases h
 .rename_i h;cases h
 .exact⟨by assumption,rfl,by assumption⟩
theorem bE.ptr{v:Value}{k off:Nat}(h:bE w p g u v (.ptr k off)):u k/\∃ J,g k = .pointer (Zz ⟨J,0,none⟩)/\v = .pointer (Zz ⟨J,off,none⟩):=by
 rcases h with h | (h | ⟨df,cs,_,h,_⟩) | ⟨df,cs,_,h,_⟩<;>first | cases h
 .rename_i h;cases h
 .exact⟨by assumption,_,by assumption,rfl⟩
theorem bE.kQ{v:Value}{k i sz off:Nat}(h:bE w p g u v (.kQ k i sz off)):u k/\∃ J,bV (g k)=Zz J/\v = .pointer (Zz ⟨J,i*sz+off,none⟩):=by
 rcases h with h | (h | ⟨df,cs,_,h,_⟩) | ⟨df,cs,_,h,_⟩<;>first | cases h
 .rename_i h;cases h
 .exact⟨by assumption,_,by assumption,rfl⟩
theorem bE.bR{v:Value}{k e sz:Nat}(h:bE w p g u v (.bR k e sz)):u k/\v=g k/\∃ a l c,g k = .slice a l c:=by
 rcases h with h | (h | ⟨df,cs,_,h,_⟩) | ⟨df,cs,_,h,_⟩<;>first | cases h
 .rename_i h;cases h
 .exact⟨by assumption,rfl,by assumption⟩
theorem bE.mp{v:Value}{k:Nat}(h:bE w p g u v (.mp k)):u k/\∃ J,g k = .map (Zz J)/\v = .map (Zz J):=by
 rcases h with h | (h | ⟨df,cs,_,h,_⟩) | ⟨df,cs,_,h,_⟩<;>first | cases h
 .rename_i h;cases h
 .exact⟨by assumption,_,by assumption,rfl⟩
theorem bE.k_{v:Value}{cs:List AV}(h:bE w p g u v (.k_ cs)):ca w p v (.k_ cs):=by
 rcases h with h | (h | ⟨df,cs,_,h,_⟩) | ⟨df,cs,_,h,_⟩<;>first | cases h
 assumption
theorem bE.rW{v:Value}{k off:Nat}(h:bE w p g u v (.rW k off)):u k/\∃ J j b,g k = .pointer (Zz ⟨b,0,none⟩)/\v = .pointer (Zz ⟨J,j,none⟩)/\w.cell? ⟨J,j,none⟩=Zz (.pointer (Zz ⟨b,off,none⟩)):=by
 rcases h with h | (h | ⟨df,cs,_,h,_⟩) | ⟨df,cs,_,h,_⟩<;>first | cases h
 .rename_i h;cases h
 .rename_i hp hu hg hc;exact⟨by assumption,_,_,_,by assumption,rfl,by assumption⟩
theorem bE.bP{v:Value}{k:Nat}{iM:List Nat}(h:bE w p g u v (.bP k iM)):u k/\∃ J b cap,g k = .pointer (Zz ⟨b,0,none⟩)/\v = .slice (Zz ⟨J,0,none⟩) iM.length cap/\∀ (j off:Nat),iM[j]? = Zz off->j<p J/\w.cell? ⟨J,j,none⟩=Zz (.pointer (Zz ⟨b,off,none⟩)):=by
 rcases h with h | (h | ⟨df,cs,_,h,_⟩) | ⟨df,cs,_,h,_⟩<;>first | cases h
 .rename_i h;cases h
 .exact⟨by assumption,_,_,_,by assumption,rfl,by assumption⟩
theorem bE.fn{v:Value}{f:Nat}(h:bE w p g u v (.fn f)):v = .func (.func f) #[] #[]:=by
 rcases h with h | (h | ⟨df,cs,_,h,_⟩) | ⟨df,cs,_,h,_⟩<;>first | cases h
 rename_i h;cases h;rfl
theorem bE.C4{v:Value}{f:Nat}{fs cs:List (Nat×Nat)}(h:bE w p g u v (.C4 f fs cs)):∃ vs us:Array Value,v = .func (.func f) vs us/\a_ (bE w p g u) vs.toList (mw fs)/\a_ (bE w p g u) us.toList (mw cs):=by
 have key:∀ {vs:Array Value} {fs:List (Nat×Nat)},vs.size=fs.length->(∀ (j k off:Nat),fs[j]? = Zz (k,off)->u k/\∃ J,g k = .pointer (Zz ⟨J,0,none⟩)/\vs[j]? = Zz (.pointer (Zz ⟨J,off,none⟩)))->a_ (bE w p g u) vs.toList (mw fs):=by
  intro vs fs h1 h2;refine⟨by simp[mw,h1],λi v c hv hc=> ?_⟩;simp only[mw,List.getElem?_map,Option.map_eq_some_iff] at hc;obtain⟨⟨k,off⟩,hj,rfl⟩:=hc;obtain⟨hu,J,hg,hx⟩:=h2 i k off hj;have:v = .pointer (Zz ⟨J,off,none⟩):=by
   have BB:vs[i]? = Zz v:=by simpa using hv
   rw[hx] at BB;cases BB;rfl
  subst this;exact .inr (.inl (.inl (.ptr hu hg)))
 rcases h with h | (h | ⟨df,cs,_,h,_⟩) | ⟨df,cs,_,h,_⟩
 .cases h
 .cases h with
  | mh h=>cases h
  | C4 h1 h2 hf hc=>exact⟨_,_,rfl,key h1 hf,key h2 hc⟩
 .cases h
 .cases h
theorem bE.pre{v:Value}{k n:Nat}(h:bE w p g u v (.pre k n)):u k/\∃ J l cap,g k = .slice (Zz ⟨J,0,none⟩) l cap/\n<=l/\v = .slice (Zz ⟨J,0,none⟩) n cap:=by
 rcases h with h | (h | ⟨df,cs,_,h,_⟩) | ⟨df,cs,_,h,_⟩<;>first | cases h
 .rename_i h;cases h
 .exact⟨by assumption,_,_,_,by assumption,by assumption,rfl⟩
theorem bE.GF{v:Value}{k m:Nat}(h:bE w p g u v (.GF k m)):u k/\∃ J l cap a,g k = .slice (Zz ⟨J,0,none⟩) l cap/\m<=l/\(m=l\/a=Zz ⟨J,m,none⟩)/\v = .slice a (l-m) (cap-m):=by
 rcases h with h | (h | ⟨df,cs,_,h,_⟩) | ⟨df,cs,_,h,_⟩<;>first | cases h
 .rename_i h;cases h
 .exact⟨by assumption,_,_,_,_,by assumption,by assumption,by assumption,rfl⟩
theorem bE.agg{v:Value}{cs:List AV}(h:bE w p g u v (.agg cs)):∃ df,v = .agg df/\a_ (cY w p g u) df.toList cs:=by
 rcases h with h | (h | ⟨df,jM,rfl,h,hc⟩) | ⟨df,cs,_,h,_⟩
 .cases h
 .cases h with | mh h=>cases h
 .cases h;exact⟨df,rfl,hc⟩
 .cases h
theorem bE.aQ{v:Value}{as:List AV}(h:bE w p g u v (.aQ as)):∃ df,v = .tuple df/\a_ (xo w p g u) df.toList as:=by
 rcases h with h | (h | ⟨df,jM,rfl,h,hc⟩) | ⟨df,as',rfl,h,hc⟩
 .cases h
 .cases h with | mh h=>cases h
 .cases h
 .cases h;exact⟨df,rfl,hc⟩
theorem ca.v{v:Value}{a:AV}(h:ca w p v a):bE w p g u v a := .inr (.inl (.inl (.mh h)))
theorem cY.v{v:Value}{a:AV}(h:cY w p g u v a):bE w p g u v a := .inr (.inl (.inl h))
end
end Go.Abs
/- Operations on memory: new blocks, loads, stores. -/
namespace Go.Abs
section
variable {P:Program} {B:Nat} {M:Nat->Prop} {w0:World} {p0:bJ} {w:World} {p:bJ} {g:Nat->Value}
def Good(B:Nat)(M:Nat->Prop)(w0:World)(p0:bJ)(w:World)(p:bJ)(g:Nat->Value)(st:Nat->bM)(v:AV)(st':Nat->bM)(r:Result Value):Prop :=
 ∃ v' w' p' g',r = .ok v' w'/\cp B M w0 p0 w' p' g' st'/\c8 w p g (used st) w' p' g' (used st')/\bE w' p' g' (used st') v' v
theorem Good.same{st:Nat->bM}{v:AV}{v':Value}{r:Result Value}(h:cp B M w0 p0 w p g st)(hr:r = .ok v' w)(hv:bE w p g (used st) v' v):Good B M w0 p0 w p g st v st r :=
 ⟨v',w,p,g,hr,h,c8.refl,hv⟩
theorem d_(w:World)(o:Obj){J:Nat}(h:J<w.heap.size):(w.alloc o).heap[J]? = w.heap[J]? := Go.RowKit.Below.heap_alloc w o J h
theorem ff(w:World)(o:Obj):(w.alloc o).heap[w.heap.size]? = Zz o:=heap_alloc_new w o
theorem cp.mv{st:Nat->bM}(h:cp B M w0 p0 w p g st)(o:Obj):∀ J,(w.alloc o).heap.size<=J->p J=0:=λJ hβ=>h.nk J (by simp at hβ;omega)
theorem vY{st:Nat->bM}{t:Nat}(h:cp B M w0 p0 w p g st)(ht:st t = .free)(c:Array Value)(e:TypeId){cs:List AV}(hc:a_ (cY w p g (used st)) c.toList cs) :
  Good B M w0 p0 w p g st (.ptr t 0) (cX st t (.cells cs)) (.ok (.pointer (Zz ⟨w.heap.size,0,none⟩)) (w.alloc (.cells c e))):=by
 obtain⟨hs,hm⟩:=h.add (w':=w.alloc (.cells c e)) (p':=p) (t:=t) (b := .cells cs) (v := .pointer (Zz ⟨w.heap.size,0,none⟩)) ht (by simp) rfl rfl rfl (by simp)
  (λJ hβ=>⟨d_ w _ hβ,rfl⟩) (λ_=>Zd _) (h.mv _) (λJ hβ=>by simp[bV] at hβ;omega)
  (λhm=>⟨w.heap.size,c,e,by rw[aT],.inr h.size,ff w _,hc.imp λ_ _=>hm.DG,h.nk _ (Zd _)⟩)
 refine⟨_,_,p,_,rfl,hs,hm,cY.v (.ptr ?_ (by rw[aT]))⟩;unfold used;rw[aT];simp
theorem Ft{st:Nat->bM}{t:Nat}(h:cp B M w0 p0 w p g st)(ht:st t = .free)(c:Array Value)(e:TypeId){l:List UInt8}(hc:c.toList=l.map ku) :
  Good B M w0 p0 w p g st (.ptr t 0) (cX st t (.jx l Zv)) (.ok (.pointer (Zz ⟨w.heap.size,0,none⟩)) (w.alloc (.cells c e))):=by
 have hp:p w.heap.size=0:=h.nk _ (Zd _);obtain⟨hs,hm⟩:=h.add (w':=w.alloc (.cells c e)) (p':=p) (t:=t) (b := .jx l Zv) (v := .pointer (Zz ⟨w.heap.size,0,none⟩)) ht (by simp) rfl rfl rfl (by simp)
  (λJ hβ=>⟨d_ w _ hβ,rfl⟩) (λ_=>Zd _) (h.mv _) (λJ hβ=>by simp[bV] at hβ;omega)
  (λhm=>⟨w.heap.size,c,e,by rw[aT],h.size,ff w _,hc,by omega,λ_=>hp⟩)
 refine⟨_,_,p,_,rfl,hs,hm,cY.v (.ptr ?_ (by rw[aT]))⟩;unfold used;rw[aT];simp
theorem AZ:∀ {as:List AV} {l:List UInt8},Sj as=Zz l->as=l.map .u8
 | [],l,h=>by simp[Sj] at h;subst h;rfl
 | a::r,l,h=>by
  cases a<;>simp[Sj] at h;obtain⟨l',h',rfl⟩:=h;rw[AZ h'];rfl
theorem xC{R:Value->AV->Prop}(hR:∀ v b,R v (.u8 b)->v=ku b):∀ {vs:List Value} {l:List UInt8},a_ R vs (l.map .u8)->vs=l.map ku
 | vs,[],h=>h.kg
 | vs,b::l,h=>by
  obtain⟨v,Sz,rfl,h1,h2⟩:=h.iV;rw[hR v b h1,xC hR h2];rfl
theorem Gg{v:Value}{b:UInt8}(h:ca w p v (.u8 b)):v=ku b:=by cases h;rfl
theorem N1{t:Nat}{info:TypeInfo}{z:Value}(hi:P.info? t=Zz info)(hz:info.zero=Zz z) :
  (Instr.alloc t Zn (.tuple #[])).run P w = .ok (.pointer (Zz ⟨w.heap.size,0,none⟩)) (w.alloc (.cells z.cells t)):=by
 unfold Instr.alloc;simp[ji hi hz,newVar,newRow]
theorem N5{O:Type}{fr:Fr}{e t:Nat}{i:TI}(hi:fh P e=Zz i)(h:cp B M w0 p0 w p g fr.st){k:ml O}{r:O}
  (hk:(match i.kind with | .df _ _ Zn=>(Sj i.zero).bind λl=>iR fr t (.jx l Zv) (.ptr t 0) k | _=>iR fr t (.cells i.zero) (.ptr t 0) k)=Zz r) :
  ∃ v st' fp,k v st' fp=Zz r/\Good B M w0 p0 w p g fr.st v st' ((Instr.alloc e Zn (.tuple #[])).run P w):=by
 obtain⟨info,z,h1,h2,h3,h4,h5,h6,h7,h8,h9,_⟩:=bA hi;rw[N1 h1 h4];have hz:=gw (w:=w) (p:=p) h5;have key:iR fr t (.cells i.zero) (.ptr t 0) k=Zz r->∃ v st' fp,k v st' fp=Zz r/\Good B M w0 p0 w p g fr.st v st' (.ok (.pointer (Zz ⟨w.heap.size,0,none⟩)) (w.alloc (.cells z.cells e))):=by
  intro hk;unfold iR at hk;split at hk
  .rename_i ht;exact⟨_,_,_,hk,vY h ht _ _ (hz.imp λ_ _ => .mh)⟩
  .cases hk
 split at hk
 .cases hl:Sj i.zero with
  | none=>simp[hl] at hk
  | some l =>
   simp only[hl,Option.bind_some,iR] at hk;split at hk
   .rename_i ht;refine⟨_,_,_,hk,Ft h ht _ _ ?_⟩;rw[AZ hl] at hz;exact xC (λv b=>Gg) hz
   .cases hk
 .exact key hk
theorem TH{O:Type}{fr:Fr}{e t:Nat}{i:TI}{x:Value}{a:AV}(h:cp B M w0 p0 w p g fr.st)(hx:bE w p g (used fr.st) x a){k:ml O}{r:O}
  (hk:(bif a.cells.length==i.size&&a.cells.all AV.ef then iR fr t (.cells a.cells) (.ptr t 0) k else none)=Zz r) :
  ∃ v st' fp,k v st' fp=Zz r/\Good B M w0 p0 w p g fr.st v st' ((Instr.box e x).run P w):=by
 cases hc:(a.cells.length==i.size&&a.cells.all AV.ef) with
 | false=>simp[hc] at hk
 | true =>
  simp only[hc,Qa6,iR] at hk;simp only[Zp] at hc;split at hk
  .rename_i ht;refine⟨_,_,_,hk,?_⟩;have:(Instr.box e x).run P w = .ok (.pointer (Zz ⟨w.heap.size,0,none⟩)) (w.alloc (.cells x.cells e)):=by
    unfold Instr.box;simp[newVar,newRow]
   rw[this];exact vY h ht _ _ (hx.cells hc.2)
  .cases hk
theorem eR(J off j:Nat):(⟨J,off,none⟩:Addr).add j=⟨J,off+j,none⟩:=by unfold Addr.add;split<;>simp_all
theorem uX{t:Nat}{i:TI}(hi:fh P t=Zz i){J off:Nat}{vs:List Value}(hl:vs.length=i.size\/(dv i.kind=Zv/\0<vs.length))
  (hc:∀ j v,vs[j]? = Zz v->w.cell? ⟨J,off+j,none⟩=Zz v) :
  (loadVar t ⟨J,off,none⟩).run P w = .ok (if dv i.kind then .agg vs.toArray else vs.headD undef) w\/vs=[]:=by
 obtain⟨info,z,h1,h2,h3,h4,h5,h6,h7,h8,h9,_⟩:=bA hi;cases hk:dv i.kind with
 | true =>
  left;have tj:vs.length=i.size:=by rcases hl with hl | hl;exact hl;rw[hk] at hl;cases hl.1
  have Zc:=run_loadCells_list (P:=P) w ⟨J,off,none⟩ vs (λj v hj=>by rw[eR];exact hc j v hj);rw[tj,<-h2] at Zc;simp[loadVar,pD h8,hk,run_sizeOf h1,Zc]
 | false =>
  cases vs with
  | nil=>exact .inr rfl
  | cons v vs =>
   left;have:=hc 0 v rfl;simp[loadVar,pD h8,hk];rw[show off=off+0 from rfl,this]
def tP(w:World)(p:bJ)(g:Nat->Value)(st:Nat->bM)(v:AV)(r:Result Value):Prop:=∃ v',r = .ok v' w/\bE w p g (used st) v' v
theorem tP.same{st:Nat->bM}{v:AV}{v':Value}{r:Result Value}(hr:r = .ok v' w)(hv:bE w p g (used st) v' v):tP w p g st v r:=⟨v',hr,hv⟩
theorem tP.mX{st:Nat->bM}{v:AV}{r:Result Value}(h:cp B M w0 p0 w p g st)(hg:tP w p g st v r):Good B M w0 p0 w p g st v st r:=by
 obtain⟨v',hr,hv⟩:=hg;exact Good.same h hr hv
theorem oz{O:Type}{st:Nat->bM}{t:Nat}{i:TI}(hi:fh P t=Zz i)(h:cp B M w0 p0 w p g st){J off:Nat}{vs:List Value}{cs:List AV}(hcs:a_ (cY w p g (used st)) vs cs)
  (hc:∀ j v,vs[j]? = Zz v->w.cell? ⟨J,off+j,none⟩=Zz v) {k:AV->Option O} {r:O} (hk:loadCells i cs k=Zz r) :
  ∃ v,k v=Zz r/\tP w p g st v ((loadVar t ⟨J,off,none⟩).run P w):=by
 unfold loadCells at hk;cases hb:Zh i.size cs.length with
 | false=>simp[hb] at hk
 | true =>
  simp only[hb,Qa6] at hk;have hle:i.size<=cs.length:=Zu hb;split at hk
  .rename_i tG;refine⟨_,hk,?_⟩;have h1:=uX (P:=P) (w:=w) hi (J:=J) (off:=off) (vs:=vs.take i.size) (.inl (by simp[hcs.len];omega)) (λj v hj=>by
    rw[Zj] at hj;split at hj
    .exact hc j v hj
    .cases hj)
   have U4:(loadVar t ⟨J,off,none⟩).run P w = .ok (.agg (vs.take i.size).toArray) w:=by
    rcases h1 with h1 | h1
    .rw[h1,tG];rfl
    .obtain⟨info,z,a1,a2,a3,a4,a5,a6,a7,a8,a9,_⟩:=bA hi;have hz:i.size=0:=by
      have:=Qb5 List.length h1;rw[List.length_take,hcs.len,List.length_nil] at this;omega
     have Zc:=run_loadCells_list (P:=P) w ⟨J,off,none⟩ [] (λj v hj=>by simp at hj);simp only[List.length_nil] at Zc;rw[hz] at a2;simp[loadVar,pD a8,tG,run_sizeOf a1,a2,Zc,hz]
   exact tP.same U4 (.inr (.inl (.inr ⟨_,_,rfl,rfl,by simpa using hcs.take i.size⟩)))
  .rename_i tG;cases cs with
   | nil=>simp at hk
   | cons c cs =>
    obtain⟨v,Sz,rfl,hv,_⟩:=hcs.iV;refine⟨_,hk,?_⟩;have h1:=uX (P:=P) (w:=w) hi (J:=J) (off:=off) (vs:=v::Sz) (.inr ⟨tG,by simp⟩) hc;rcases h1 with h1 | h1
    .rw[tG] at h1;exact tP.same h1 (cY.v hv)
    .cases h1
theorem G4{R:Value->AV->Prop}{vs:List Value}{els:List AV}{sz:Nat}(h:a_ R vs (els.flatMap AV.cells))(fV:∀ x∈els,x.cells.length=sz){j:Nat}{x:AV}(hj:els[j]? = Zz x)(off:Nat) :
  a_ R ((vs.drop (j*sz+off)).take (sz-off)) (x.cells.drop off):=by
 have hx:=fV x (List.mem_of_getElem? hj);have M9:j<els.length:=(Zq.1 hj).1;have hl:=h.len;rw[jC fV] at hl;have Bt:(j+1)*sz<=els.length*sz:=Zm sz M9;rw[Yy] at Bt;refine⟨?_,λi v c hv hc=> ?_⟩
 .rw[List.length_take,List.length_drop,List.length_drop,hx];omega
 .rw[Zj] at hv;split at hv
  .rw[Yx] at hv hc;have:=uu fV hj hc;rw[Nat.add_assoc] at hv;exact h.each _ v c hv this
  .cases hv
theorem uZ{O:Type}{E:Env}(fw:∀ t i,E.ty t=Zz i->fh P t=Zz i){fr:Fr}{t:Nat}{i:TI}(hi:fh P t=Zz i)(h:cp B M w0 p0 w p g fr.st){x:Value}{a:AV}(hx:bE w p g (used fr.st) x a){k:ml O}{r:O}(hk:kP E fr i a k=Zz r) :
  ∃ v fp,k v fr.st fp=Zz r/\tP w p g fr.st v ((Instr.loadAt t x).run P w):=by
 unfold kP at hk;split at hk
 .rename_i b off;obtain⟨hu,J,hg,rfl⟩:=hx.ptr;have hb:=h.nI b;split at hk
  .rename_i cs dJ;rw[dJ] at hb;obtain⟨β',c,e,h1,h2,h3,h4,h5⟩:=hb;have:β'=J:=by rw[h1] at hg;cases hg;rfl
   subst this;obtain⟨v,qo,Sr⟩:=oz (P:=P) hi h (J:=β') (off:=off) (h4.drop off) (λj v hj=>by
    rw[fH h3];simpa using hj) hk
   exact⟨v,_,qo,by simpa [Instr.loadAt,Instr.sureAddr] using Sr⟩
  .cases hk
 .rename_i cs;have hr:=hx.k_;cases hr with
  | k_ vs hcell m4 =>
   rename_i J off;obtain⟨v,qo,Sr⟩:=oz (P:=P) hi h (J:=J) (off:=off) (vs:=(List.range cs.length).map vs) (cs:=cs) ⟨by simp,λj v c hv hc=>by
     have hj:j<cs.length:=(Zq.1 hc).1;simp[hj] at hv;subst hv;exact .mh (m4 j c hc)⟩ (λj v hj=>by
     have HF:j<cs.length:=by have:=(Zq.1 hj).1;simpa using this
     simp[HF] at hj;subst hj;exact(hcell j _ (Zb HF)).2) hk
   exact⟨v,_,qo,by simpa [Instr.loadAt,Instr.sureAddr] using Sr⟩
 .rename_i b off;obtain⟨hu,J,j,b',hg,rfl,hc⟩:=hx.rW;split at hk
  .rename_i e fo;obtain⟨fV,bq⟩:=aL hk;have ZL:=Zx fV;refine⟨_,_,bq,?_⟩;have tG:dv i.kind=Zv:=by rw[fo];rfl
   have h1:=uX (P:=P) (w:=w) hi (J:=J) (off:=j) (vs:=[.pointer (Zz ⟨b',off,none⟩)]) (.inr ⟨tG,by simp⟩) (λq v hq=>by
    cases q with
    | zero=>simp at hq;subst hq;simpa using hc
    | succ q=>simp at hq)
   rcases h1 with h1 | h1
   .rw[tG] at h1;exact tP.same (by simpa [Instr.loadAt,Instr.sureAddr] using h1) (cY.v (.ptr hu hg))
   .cases h1
  .cases hk
 .rename_i b j sz off;obtain⟨hu,J,hg,rfl⟩:=hx.kQ;have hb:=h.nI b;have key:∀ (l:List UInt8) (c:Array Value) (e:TypeId) (n:Nat),w.heap[J]? = Zz (.cells c e (0,0))->(c.toList.take n=l.map ku)->aB (Zk j l.length&&Zy off 0&&Zy sz 1 && !dv i.kind) (k (.u8 (l.getD j 0)) fr.st ⟨[b],[]⟩)=Zz r ->
    ∃ v fp,k v fr.st fp=Zz r/\tP w p g fr.st v ((Instr.loadAt t (.pointer (Zz ⟨J,j*sz+off,none⟩))).run P w):=by
   intro l c e n hh hc bq;obtain⟨eu,da⟩:=aL bq;simp only[Zp,Bool.not_eq_true'] at eu;obtain⟨⟨⟨hj,ho⟩,hs⟩,tG⟩:=eu;have fY:j<l.length:=Zu hj;have Ko:=Zx ho;have hs':=Zx hs;subst Ko;subst hs';refine⟨_,_,da,tP.same (v':=ku (l.getD j 0)) ?_ (ca.v .u8)⟩;have hcell:w.cell? ⟨J,j,none⟩=Zz (ku (l.getD j 0)):=by
    rw[fH hh];have h1:(l.map ku)[j]? = Zz (ku (l.getD j 0)):=by simp[fY]
    rw[<-hc,Zj] at h1;split at h1
    .simpa using h1
    .cases h1
   obtain⟨info,z,a1,a2,a3,a4,a5,a6,a7,a8,a9,_⟩:=bA hi;simp[Instr.loadAt,Instr.sureAddr,loadVar,pD a8,tG,hcell]
  split at hk
  .rename_i e l iO dJ;rw[dJ] at hb;obtain⟨⟨hlen,⟨hn,a,hv⟩ | ⟨β',cap,kC,hv,h0,hB,hh,tn,zZ,hcs,gI⟩⟩,_⟩:=hb
   .rw[hv] at hg;cases a<;>simp[bV] at hg
   .rw[hv] at hg;have:β'=J:=by simp[bV] at hg;exact hg.2
    subst this;exact key l kC e _ hh gI hk
  .rename_i l iO dJ;rw[dJ] at hb;obtain⟨β',c,e,h1,h2,h3,h4,h5⟩:=hb;rw[h1] at hg;have:β'=J:=by simp[bV] at hg;exact hg
   subst this;exact key l c e c.size h3 (by rw[List.take_of_length_le (by simp)];exact h4) hk
  .rename_i e z l iO dJ;rw[dJ] at hb;split at hk
   .rename_i ei jm;obtain⟨eu,bq⟩:=aL hk;simp only[Zp] at eu;have fY:j<l.length:=Zu eu.1;have hz:=Zx eu.2;subst hz;have da:=jS bq;obtain⟨tp,fV,vs,⟨hlen,⟨hn,a,hv⟩ | ⟨β',cap,kC,hv,h0,hB,hh,tn,zZ,hcs,gI⟩⟩,dP,hp⟩:=hb
    .omega
    .rw[hv] at hg;have:β'=J:=by simp[bV] at hg;exact hg.2
     subst this;have uB:l[j]? = Zz (l.getD j .undef):=by simp[fY]
     have S9:=G4 (dP.imp λ_ _ hh=>cY.mh (g:=g) (u:=used fr.st) hh) fV uB off;obtain⟨v,qo,Sr⟩:=oz (P:=P) hi h (J:=β') (off:=j*z+off) S9 (λq v hq=>by
      rw[Zj] at hq;split at hq
      .rw[Yx,<-gI,Zj] at hq;split at hq
       .rw[fH hh];simpa using hq
       .cases hq
      .cases hq) da
     exact⟨v,_,qo,by simpa [Instr.loadAt,Instr.sureAddr] using Sr⟩
   .cases hk
  .rename_i e z l dJ;rw[dJ] at hb;split at hk
   .rename_i ei jm;obtain⟨eu,bq⟩:=aL hk;simp only[Zp] at eu;have fY:j<l.length:=Zu eu.1;have hz:=Zx eu.2;subst hz;have da:=jS bq;obtain⟨β',cap,hv,hB,tp,fV,h0,tn,zZ,hp,kC,vs,hh,hcs,hlen,gI,dP⟩:=hb
    .rw[hv] at hg;have:β'=J:=by simp[bV] at hg;exact hg.2
     subst this;have uB:l[j]? = Zz (l.getD j .undef):=by simp[fY]
     have S9:=G4 (dP.imp λ_ _ hh=>cY.mh (g:=g) (u:=used fr.st) hh) fV uB off;obtain⟨v,qo,Sr⟩:=oz (P:=P) hi h (J:=β') (off:=j*z+off) S9 (λq v hq=>by
      rw[Zj] at hq;split at hq
      .rw[Yx,<-gI,Zj] at hq;split at hq
       .rw[fH hh];simpa using hq
       .cases hq
      .cases hq) da
     exact⟨v,_,qo,by simpa [Instr.loadAt,Instr.sureAddr] using Sr⟩
   .cases hk
  .cases hk
 .cases hk
theorem K7{O:Type}{E:Env}(fw:∀ t i,E.ty t=Zz i->fh P t=Zz i){fr:Fr}{t:Nat}{i:TI}(hi:fh P t=Zz i)(h:cp B M w0 p0 w p g fr.st){x:Value}{a:AV}(hx:bE w p g (used fr.st) x a){k:ml O}{r:O}(hk:kP E fr i a k=Zz r) :
  ∃ v fp,k v fr.st fp=Zz r/\Good B M w0 p0 w p g fr.st v fr.st ((Instr.loadAt t x).run P w):=by
 obtain⟨v,fp,h1,h2⟩:=uZ fw hi h hx hk;exact⟨v,fp,h1,h2.mX h⟩
end
end Go.Abs
/- Operations on numbers, truth values and strings; stores. -/
namespace Go.Abs
section
variable {P:Program} {B:Nat} {M:Nat->Prop} {w0:World} {p0:bJ} {w:World} {p:bJ} {g:Nat->Value} {u:Nat->Prop}
theorem hX{O:Type}{x y:Value}{a b:AV}(hx:bE w p g u x a)(hy:bE w p g u y b){k:IntKind->Int->Int->Option O}{r:O}(h:iQ a b k=Zz r) :
  ∃ kd n m,x = .int kd n/\y = .int kd m/\k kd n m=Zz r/\(kd = .u8->(0<=n/\n<256)/\(0<=m/\m<256)):=by
 unfold iQ at h;split at h
 .rename_i k1 n k2 m;obtain⟨rfl,h1⟩:=hx.int;obtain⟨rfl,h2⟩:=hy.int;cases he:(k1==k2) with
  | false=>simp[he] at h
  | true =>
   simp[he] at h;have:k1=k2:=by simpa using he
   subst this;exact⟨k1,n,m,rfl,rfl,h,λe=>absurd e h1⟩
 .rename_i n m;have e1:=hx.u8;have e2:=hy.u8;subst e1;subst e2;refine⟨.u8,n.toNat,m.toNat,rfl,rfl,h,λ_=> ?_⟩;have:=n.toNat_lt;have:=m.toNat_lt
  omega
 .cases h
theorem fP(op:BinOp)(t:TypeId)(k:IntKind)(n m:Int)(h1:op ≠ .shl)(h2:op ≠ .shr) :
  binOp op t (.int k n) (.int k m)=(match op with
  | .add | .sub | .mul=>Op.intArith op k n m
  | .quo | .rem=>Op.intDiv op k n m
  | .and | .or | .xor | .andNot=>Op.intBits op k n m
  | _=>Op.intCmp op n m):=by
 cases op<;>first | exact absurd rfl h1 | exact absurd rfl h2 | simp[binOp]
theorem Mv{n m:Int}(hn:0<=n/\n<256):0<=n.tmod m/\n.tmod m<256:=by
 have h1:0<=n.tmod m:=Int.tmod_nonneg m hn.1;have h2:=Int.natAbs_tmod n m;have h3:=Nat.mod_le n.natAbs m.natAbs;omega
theorem vD{y:Value}{b:AV}(hy:bE w p g u y b){m:Int}(h:r_ b=Zz m):∃ k,y = .int k m:=by
 unfold r_ at h;split at h
 .cases h;exact⟨_,hy.int.1⟩
 .cases h;exact⟨_,hy.u8⟩
 .cases h
theorem jI{y:Value}{b:AV}(hy:bE w p g u y b){m:Int}(h:idx b=Zz m):∃ k,y = .int k m:=by
 unfold idx at h;split at h
 .cases h;exact⟨_,hy.int.1⟩
 .cases h;exact⟨_,hy.u8⟩
 .cases h
theorem S3{n:Int}{j:Nat}(hn:0<=n/\n<256):0<=n.fdiv (2 ^ j)/\n.fdiv (2 ^ j)<256:=by
 have hp:(0:Int)<2 ^ j:=Int.pow_pos (by decide);rw[Int.fdiv_eq_ediv_of_nonneg _ (Int.le_of_lt hp)];have h1:=Int.ediv_nonneg hn.1 (Int.le_of_lt hp);have h2:=Int.ediv_le_self (2 ^ j) hn.1;omega
theorem sB{x y:Value}{a b:AV}(hx:bE w p g u x a)(hy:bE w p g u y b){c:Bool}(h:mP a b=Zz c) :
  (∃ k n m,x = .int k n/\y = .int k m/\c=(n==m))\/(∃ s t,x = .bool s/\y = .bool t/\c=(s==t))\/(∃ s t:ByteArray,x = .string s/\y = .string t/\c=(s.data.toList==t.data.toList)):=by
 unfold mP at h;split at h
 .rename_i k1 n k2 m;obtain⟨rfl,_⟩:=hx.int;obtain⟨rfl,_⟩:=hy.int;cases he:(k1==k2) with
  | false=>simp[he] at h
  | true =>
   simp[he] at h;have:k1=k2:=by simpa using he
   subst this;exact .inl ⟨_,_,_,rfl,rfl,h.symm⟩
 .rename_i n m;have e1:=hx.u8;have e2:=hy.u8;subst e1;subst e2;cases h;refine .inl ⟨_,_,_,rfl,rfl,?_⟩;rw[Bool.eq_iff_iff];simp;constructor
  .rintro rfl;rfl
  .intro h;exact UInt8.toNat.inj (by omega)
 .have e1:=hx.bool;have e2:=hy.bool;subst e1;subst e2;cases h;exact .inr (.inl ⟨_,_,rfl,rfl,rfl⟩)
 .obtain⟨s,rfl,hs⟩:=hx.str;obtain⟨t,rfl,ht⟩:=hy.str;cases h;exact .inr (.inr ⟨s,t,rfl,rfl,by rw[hs,ht]⟩)
 .cases h
theorem Ak{t:TypeId}{x y:Value}{a b:AV}(hx:bE w p g u x a)(hy:bE w p g u y b){c:Bool}(h:mP a b=Zz c)(hb:∀ s r,x = .bool s->y = .bool r->P.underlying t=Zz .bool) :
  (binOp .eql t x y).run P w = .ok (.bool c) w/\(binOp .neq t x y).run P w = .ok (.bool !c) w:=by
 rcases sB hx hy h with⟨k,n,m,rfl,rfl,rfl⟩ | ⟨s,r,rfl,rfl,rfl⟩ | ⟨s,r,rfl,rfl,rfl⟩
 .constructor<;>simp[binOp,Op.intCmp,bne]
 .have:=hb s r rfl rfl;have he:∀ d,(Op.equalIn (d+1) t (.bool s) (.bool r)).run P w = .ok (s==r) w:=λd=>by simp[Op.equalIn,run_underlying this]
  constructor<;>(simp only[binOp];simp[Op.equal,Op.maxDepth,he 9999])
 .constructor<;>simp[binOp,Op.stringOp,Lib.toList_data]
theorem Fp{op:BinOp}{t:TypeId}{x y:Operand}{v v':Value}(h:∀ df,v ≠ .agg df)(h':v ≠ .nilIface):(eqGuard op t x y v v').run P w = .ok () w:=by
 cases op<;>first | rfl | (cases v<;>first | rfl | exact absurd rfl (h _) | exact absurd rfl h')
theorem IE{v:Value}{a:AV}(h:bE w p g u v a)(hc:a.ef=Zn):(∀ df,v ≠ .agg df)/\v ≠ .nilIface:=by
 rcases h with rfl | (h | ⟨df,cs,rfl,rfl,h⟩) | ⟨df,cs,rfl,rfl,h⟩
 .simp[AV.ef] at hc
 .cases h with
  | mh h=>cases h<;>simp[ku]
  | ptr=>simp
  | kQ=>simp
  | row hu hs=>obtain⟨a,l,c,e⟩:=hs;rw[e];simp
  | mp=>simp
  | bR hu hs=>obtain⟨a,l,c,e⟩:=hs;rw[e];simp
  | bP=>simp
  | rW=>simp
  | pre=>simp
  | GF=>simp
  | C4=>simp
 .simp[AV.ef] at hc
 .simp[AV.ef] at hc
theorem TG{op:BinOp}{t:TypeId}{x y:Value}{a b v:AV}(hx:bE w p g u x a)(hy:bE w p g u y b)(h:nN op a b=Zz v)(ha:a.ef=Zn)
  (hb:∀ s r,x = .bool s->y = .bool r->P.underlying t=Zz .bool):∃ v',(binOp op t x y).run P w = .ok v' w/\ca w p v' v:=by
 unfold nN at h;split at h
 .-- shl
  split at h
  .rename_i k n m hm;obtain⟨rfl,hk⟩:=hx.int;obtain⟨k',rfl⟩:=vD hy hm;cases h0:Zw (0<=m) with
   | false=>simp[h0,aB] at h
   | true =>
    simp[h0,aB] at h;subst h;have:¬ m<0:=by simp at h0;omega
    exact⟨_,by simp[binOp,Op.shift,this],.int hk⟩
  .rename_i n m hm;have e:=hx.u8;subst e;obtain⟨k',rfl⟩:=vD hy hm;cases h0:Zw (0<=m) with
   | false=>simp[h0,aB] at h
   | true =>
    simp[h0,aB] at h;subst h;have:¬ m<0:=by simp at h0;omega
    refine⟨_,?_,hZ λ_=>wrap_u8 _⟩;simp[ku,binOp,Op.shift,this,IntKind.bits]
  .cases h
 .-- shr
  split at h
  .rename_i k n m hm;obtain⟨rfl,hk⟩:=hx.int;obtain⟨k',rfl⟩:=vD hy hm;cases h0:Zw (0<=m) with
   | false=>simp[h0,aB] at h
   | true =>
    simp[h0,aB] at h;subst h;have:¬ m<0:=by simp at h0;omega
    exact⟨_,by simp[binOp,Op.shift,this],.int hk⟩
  .rename_i n m hm;have e:=hx.u8;subst e;obtain⟨k',rfl⟩:=vD hy hm;cases h0:Zw (0<=m) with
   | false=>simp[h0,aB] at h
   | true =>
    simp[h0,aB] at h;subst h;have:¬ m<0:=by simp at h0;omega
    have hn:=n.toNat_lt;refine⟨_,?_,hZ λ_=>S3 ⟨by omega,by omega⟩⟩;simp[ku,binOp,Op.shift,this,IntKind.bits]
  .cases h
 .-- add
  split at h
  .rename_i s s';obtain⟨s,rfl,rfl⟩:=hx.str;obtain⟨s',rfl,rfl⟩:=hy.str;cases h0:Zw (s.data.toList.length+s'.data.toList.length<=4611686018427387904) with
   | false=>rw[h0] at h;cases h
   | true =>
    simp only[h0,aB,Qa6,Option.some.injEq] at h;subst h;have hle:s.size+s'.size<=4611686018427387904:=by simpa using Qa3 h0
    have:¬ ((s.size+s'.size:Nat):Int)>IntKind.i64.max:=by simp[IntKind.max,IntKind.signed,IntKind.bits];omega
    refine⟨.string (s++s'),?_,.str (by simp)⟩;simp only[binOp,Op.stringOp,this,if_false];rfl
  .obtain⟨k,n,m,rfl,rfl,hk,hr⟩:=hX hx hy h;cases hk;exact⟨_,by rw[fP _ _ _ _ _ (by simp) (by simp)];simp[Op.intArith],hZ λe=>by subst e;exact wrap_u8 _⟩
 .obtain⟨k,n,m,rfl,rfl,hk,hr⟩:=hX hx hy h;cases hk;exact⟨_,by rw[fP _ _ _ _ _ (by simp) (by simp)];simp[Op.intArith],hZ λe=>by subst e;exact wrap_u8 _⟩
 .obtain⟨k,n,m,rfl,rfl,hk,hr⟩:=hX hx hy h;cases hk;exact⟨_,by rw[fP _ _ _ _ _ (by simp) (by simp)];simp[Op.intArith],hZ λe=>by subst e;exact wrap_u8 _⟩
 .-- quo
  obtain⟨k,n,m,rfl,rfl,hk,hr⟩:=hX hx hy h;cases h0:(m==0) with
  | true=>simp[h0,aB] at hk
  | false =>
   simp[h0,aB] at hk;subst hk;have:m≠0:=by simpa using h0
   exact⟨_,by rw[fP _ _ _ _ _ (by simp) (by simp)];simp[Op.intDiv,this],hZ λe=>by subst e;exact wrap_u8 _⟩
 .-- rem
  obtain⟨k,n,m,rfl,rfl,hk,hr⟩:=hX hx hy h;cases h0:(m==0) with
  | true=>simp[h0,aB] at hk
  | false =>
   simp[h0,aB] at hk;subst hk;have:m≠0:=by simpa using h0
   exact⟨_,by rw[fP _ _ _ _ _ (by simp) (by simp)];simp[Op.intDiv,this],hZ λe=>by subst e;exact Mv (hr rfl).1⟩
 .obtain⟨k,n,m,rfl,rfl,hk,hr⟩:=hX hx hy h;cases hk;exact⟨_,by rw[fP _ _ _ _ _ (by simp) (by simp)];rfl,hZ λe=>by subst e;exact wrap_u8 _⟩
 .obtain⟨k,n,m,rfl,rfl,hk,hr⟩:=hX hx hy h;cases hk;exact⟨_,by rw[fP _ _ _ _ _ (by simp) (by simp)];rfl,hZ λe=>by subst e;exact wrap_u8 _⟩
 .obtain⟨k,n,m,rfl,rfl,hk,hr⟩:=hX hx hy h;cases hk;exact⟨_,by rw[fP _ _ _ _ _ (by simp) (by simp)];rfl,hZ λe=>by subst e;exact wrap_u8 _⟩
 .-- lss
  split at h
  .obtain⟨s,rfl,rfl⟩:=hx.str;obtain⟨s',rfl,rfl⟩:=hy.str;cases h;exact⟨_,by simp[binOp,Op.stringOp,Lib.toList_data],.bool⟩
  .obtain⟨k,n,m,rfl,rfl,hk,hr⟩:=hX hx hy h;cases hk;exact⟨_,by rw[fP _ _ _ _ _ (by simp) (by simp)];rfl,.bool⟩
 .split at h
  .obtain⟨s,rfl,rfl⟩:=hx.str;obtain⟨s',rfl,rfl⟩:=hy.str;cases h;exact⟨.bool _,by simp only[binOp,Op.stringOp,Lib.toList_data];rfl,.bool⟩
  .obtain⟨k,n,m,rfl,rfl,hk,hr⟩:=hX hx hy h;cases hk;exact⟨_,by rw[fP _ _ _ _ _ (by simp) (by simp)];rfl,.bool⟩
 .-- gtr
  split at h
  .obtain⟨s,rfl,rfl⟩:=hx.str;obtain⟨s',rfl,rfl⟩:=hy.str;cases h;exact⟨.bool _,by simp only[binOp,Op.stringOp,Lib.toList_data];rfl,.bool⟩
  .obtain⟨k,n,m,rfl,rfl,hk,hr⟩:=hX hx hy h;cases hk;exact⟨_,by rw[fP _ _ _ _ _ (by simp) (by simp)];rfl,.bool⟩
 .split at h
  .obtain⟨s,rfl,rfl⟩:=hx.str;obtain⟨s',rfl,rfl⟩:=hy.str;cases h;exact⟨.bool _,by simp only[binOp,Op.stringOp,Lib.toList_data];rfl,.bool⟩
  .obtain⟨k,n,m,rfl,rfl,hk,hr⟩:=hX hx hy h;cases hk;exact⟨_,by rw[fP _ _ _ _ _ (by simp) (by simp)];rfl,.bool⟩
 .-- eql
  split at h
  .simp[AV.ef] at ha
  .cases hc:mP a b with
   | none=>simp[hc] at h
   | some c =>
    simp[hc] at h;subst h;exact⟨_,(Ak hx hy hc hb).1,.bool⟩
 .split at h
  .simp[AV.ef] at ha
  .cases hc:mP a b with
   | none=>simp[hc] at h
   | some c =>
    simp[hc] at h;subst h;exact⟨_,(Ak hx hy hc hb).2,.bool⟩
 .cases h
theorem WK{op:UnOp}{x:Value}{a v:AV}(hx:bE w p g u x a)(h:U0 op a=Zz v):∃ v',(Op.unary op x).run P w = .ok v' w/\ca w p v' v:=by
 unfold U0 at h;split at h
 .have e:=hx.bool;subst e;cases h;exact⟨_,rfl,.bool⟩
 .obtain⟨rfl,hk⟩:=hx.int;cases h;exact⟨_,by simp[Op.unary,Op.intArith],.int hk⟩
 .cases h
end
end Go.Abs
/- Values that go out of a frame; stores. -/
namespace Go.Abs
section
variable {P:Program} {B:Nat} {M:Nat->Prop} {w0:World} {p0:bJ} {w:World} {p:bJ} {g:Nat->Value}
theorem cp.relabel{st:Nat->bM}(h:cp B M w0 p0 w p g st){k:Nat}{b:bM}{p':bJ}(hk:(st k).live)(hb:b.live)(hp:∀ J,bV (g k)≠Zz J->p' J=p J)
  (hle:∀ J,bV (g k)=Zz J->p J<=p' J) (hB0:∀ J,bV (g k)=Zz J->J<B->M J/\p' J=p J)
  (hB:c8 w p g (used st) w p' g (used (cX st k b))->nM w p' g (used (cX st k b)) B M k b) :
  cp B M w0 p0 w p' g (cX st k b)/\c8 w p g (used st) w p' g (used (cX st k b)):=by
 have M0:b ≠ .free:=λe=>by rw[e] at hb;exact hb
 have hu:∀ j,used st j->used (cX st k b) j:=λj hj=>qm M0 hj;have uE:∀ J,p J<=p' J:=λJ=>by
  by_cases e:bV (g k)=Zz J
  .exact hle J e
  .rw[hp J e];exact Zd _
 refine h.change rfl rfl rfl (Zd _) (λj=>j=k) (λJ=>bV (g k)=Zz J) (λj hj=>cg _ _ hj) hu (λ_ _=>rfl) (λJ _ hd=>⟨rfl,hp J hd⟩) (λJ hd hlB=>hB0 J hd hlB) uE (λ_ _ _=>rfl) ?_ ?_ ?_ ?_
 .intro J hβ;rw[hp J (λe=>by have:=(h.nI k).vJ hk e;omega)];exact h.nk J hβ
 .intro j J hj hl hv hd;exact h.tF j k J hj hl hk hv hd
 .rintro j rfl;rw[aT];exact hB ⟨uE,λ_ _ _=>rfl,λ_ _=>rfl,hu⟩
 .rintro j j' J rfl ii _ tj L5 ox;rw[cg _ _ ii] at tj;exact h.tF j j' J (Ne.symm ii) hk tj L5 ox
def raise(p:bJ)(o:Option Nat)(n:Nat):bJ:=λJ=>if o=Zz J then n else p J
theorem gR{p:bJ}{o:Option Nat}{n J:Nat}(h:o=Zz J):raise p o n J=n:=by simp[raise,h]
theorem nB{p:bJ}{o:Option Nat}{n J:Nat}(h:o≠Zz J):raise p o n J=p J:=by simp[raise,h]
theorem Qt{st:Nat->bM}(h:cp B M w0 p0 w p g st){k e:Nat}{l:List UInt8}{iO:Bool}(hk:st k = .fg e l iO) :
  ∃ p',cp B M w0 p0 w p' g (cX st k (.fg e l Zn))/\c8 w p g (used st) w p' g (used (cX st k (.fg e l Zn)))/\ca w p' (g k) (.bs l):=by
 have hb:=h.nI k;rw[hk] at hb;obtain⟨bR,hp⟩:=hb;have hB:∀ J,bV (g k)=Zz J->B<=J:=λJ hv=>by
  obtain⟨_,⟨_,a,hg⟩ | ⟨β',cap,kC,hg,h0,hB,_⟩⟩:=bR
  .rw[hg] at hv;cases a<;>simp[bV] at hv
  .rw[hg] at hv;have:β'=J:=by simp[bV] at hv;exact hv.2
   omega
 obtain⟨hs,hm⟩:=h.relabel (k:=k) (b := .fg e l Zn) (p':=raise p (bV (g k)) l.length) (by rw[hk];trivial) trivial (λJ hv=>nB hv)
  (λJ hv=>by rw[gR hv];exact(hp J hv).1) (λJ hv fY=>by have:=hB J hv;omega)
  (λhm=>⟨bR,λJ hv=>⟨by rw[gR hv];exact Zd _,λe=>by cases e⟩⟩)
 refine⟨_,hs,hm,?_⟩;obtain⟨hlen,⟨hn,a,hg⟩ | ⟨J,cap,kC,hg,h0,hB',hh,tn,zZ,hcs,gI⟩⟩:=bR
 .have:l=[]:=Yz hn;subst this;rw[hg];exact .bs 0 0 rfl (Zd _) (.inl rfl) (λi b hi=>by simp at hi)
 .rw[hg];refine .bs J 0 rfl tn (.inr rfl) λi b hi=>⟨?_,?_⟩
  .rw[gR (by simp[bV];omega)];have:=(Zq.1 hi).1;omega
  .rw[fH hh];have h1:(l.map ku)[i]? = Zz (ku b):=by simp[hi]
   rw[<-gI,Zj] at h1;split at h1
   .simpa using h1
   .cases h1
theorem Qu{st:Nat->bM}(h:cp B M w0 p0 w p g st){k e z:Nat}{l:List AV}{iO:Bool}(hk:st k = .dG e z l iO) :
  ∃ p',cp B M w0 p0 w p' g (cX st k (.dG e z l Zn))/\c8 w p g (used st) w p' g (used (cX st k (.dG e z l Zn)))/\ca w p' (g k) (.sl z l):=by
 have hb:=h.nI k;rw[hk] at hb;obtain⟨hz,fV,vs,bR,dP,hp⟩:=hb;have hB:∀ J,bV (g k)=Zz J->B<=J:=λJ hv=>by
  obtain⟨_,⟨_,a,hg⟩ | ⟨β',cap,kC,hg,h0,hB,_⟩⟩:=bR
  .rw[hg] at hv;cases a<;>simp[bV] at hv
  .rw[hg] at hv;have:β'=J:=by simp[bV] at hv;exact hv.2
   omega
 obtain⟨hs,hm⟩:=h.relabel (k:=k) (b := .dG e z l Zn) (p':=raise p (bV (g k)) (l.length*z)) (by rw[hk];trivial) trivial (λJ hv=>nB hv)
  (λJ hv=>by rw[gR hv];exact(hp J hv).1) (λJ hv fY=>by have:=hB J hv;omega)
  (λhm=>⟨hz,fV,vs,bR,dP.imp λ_ _=>hm.vO,λJ hv=>⟨by rw[gR hv];exact Zd _,λe=>by cases e⟩⟩)
 refine⟨_,hs,hm,?_⟩;have Vr:=jC fV;obtain⟨hlen,⟨hn,a,hg⟩ | ⟨J,cap,kC,hg,h0,hB',hh,tn,zZ,hcs,gI⟩⟩:=bR
 .have:l=[]:=Yz hn;subst this;rw[hg];exact .sl 0 0 (λ_=>undef) rfl (Zd _) (λ_ h=>by cases h) (.inl rfl) (λi b hi=>by simp at hi) (λi b hi=>by simp at hi)
 .have JP:=dP.imp λv c Nc=>hm.vO Nc;rw[hg] at JP ⊢;refine .sl J 0 (λj=>vs.getD j undef) rfl tn fV (.inr rfl) (λj c hj=>⟨?_,?_⟩) (λj c hj=> ?_)
  .rw[gR (by simp[bV];omega)];have:=(Zq.1 hj).1;omega
  .obtain⟨v,hv,_⟩:=JP.get hj;rw[fH hh];have h1:=hv;rw[<-gI,Zj] at h1;split at h1
   .simp[hv];simpa using h1
   .cases h1
  .obtain⟨v,hv,hr⟩:=JP.get hj;simp[hv];exact hr
def kp(w:World)(p:bJ)(v:Value)(a:AV):Prop:=ca w p v a\/∃ df cs,v = .agg df/\a = .agg cs/\a_ (ca w p) df.toList cs
theorem kp.v{u:Nat->Prop}{v:Value}{a:AV}(h:kp w p v a):bE w p g u v a:=by
 rcases h with h | ⟨df,cs,rfl,rfl,h⟩
 .exact h.v
 .exact .inr (.inl (.inr ⟨df,cs,rfl,rfl,h.imp λ_ _ => .mh⟩))
theorem kp.mono{w':World}{p':bJ}(hp:∀ J,p J<=p' J)(hc:∀ J i,i<p J->w'.cell? ⟨J,i,none⟩=w.cell? ⟨J,i,none⟩){v:Value}{a:AV}(h:kp w p v a):kp w' p' v a:=by
 rcases h with h | ⟨df,cs,rfl,rfl,h⟩
 .exact .inl (h.mono hp hc)
 .exact .inr ⟨df,cs,rfl,rfl,h.imp λ_ _ hh=>hh.mono hp hc⟩
theorem kp.cells{v:Value}{a:AV}(h:kp w p v a):a_ (ca w p) v.cells.toList a.cells:=by
 rcases h with h | ⟨df,cs,rfl,rfl,h⟩
 .rw[h.tY.1,h.tY.2.2.1];exact .cons h .nil
 .exact h
def kG(st st':Nat->bM):Prop:=(∀ b cs,st b = .cells cs->st' b = .cells cs)/\∀ b e z l,st b = .jh e z l->st' b = .jh e z l
theorem kG.refl{st:Nat->bM}:kG st st:=⟨λ_ _ h=>h,λ_ _ _ _ h=>h⟩
theorem kG.trans{a b c:Nat->bM}(h:kG a b)(k:kG b c):kG a c:=⟨λx cs hx=>k.1 x cs (h.1 x cs hx),λx e z l hx=>k.2 x e z l (h.2 x e z l hx)⟩
theorem kG.cX{st:Nat->bM}{r:Nat}{x:bM}(h:∀ cs,st r ≠ .cells cs)(h2:∀ e z l,st r ≠ .jh e z l):kG st (Abs.cX st r x) :=
 ⟨λb cs hb=>by rw[cg _ _ (λe=>by subst e;exact h cs hb)];exact hb,λb e z l hb=>by rw[cg _ _ (λq=>by subst q;exact h2 e z l hb)];exact hb⟩
theorem vE{O:Type}{st:Nat->bM}(h:cp B M w0 p0 w p g st){c:CT}{x:Value}{v:AV}(hx:bE w p g (used st) x v){k:AV->(Nat->bM)->FP->Option O}{r:O}(hk:B_ c v st k=Zz r) :
  ∃ a st' fp p',k a st' fp=Zz r/\cp B M w0 p0 w p' g st'/\c8 w p g (used st) w p' g (used st')/\ca w p' x a/\kG st st':=by
 unfold B_ at hk;split at hk
 .obtain⟨a,rfl⟩:=hx.dq;exact⟨_,_,_,p,hk,h,c8.refl,.bs 0 0 rfl (Zd _) (.inl rfl) (λi b hi=>by simp at hi),kG.refl⟩
 .obtain⟨a,rfl⟩:=hx.dq;exact⟨_,_,_,p,hk,h,c8.refl,.sl 0 0 (λ_=>undef) rfl (Zd _) (λ_ h=>by cases h) (.inl rfl) (λi b hi=>by simp at hi) (λi b hi=>by simp at hi),kG.refl⟩
 .rename_i r';obtain⟨hu,rfl,_⟩:=hx.row;split at hk
  .rename_i e l iO dJ;obtain⟨p',hs,hm,hr⟩:=Qt h dJ;exact⟨_,_,_,p',hk,hs,hm,hr,kG.cX (λcs e=>by rw[dJ] at e;cases e) (λe z l q=>by rw[dJ] at q;cases q)⟩
  .rename_i e z l iO dJ;obtain⟨p',hs,hm,hr⟩:=Qu h dJ;exact⟨_,_,_,p',hk,hs,hm,hr,kG.cX (λcs e=>by rw[dJ] at e;cases e) (λe z l q=>by rw[dJ] at q;cases q)⟩
  .cases hk
 .obtain⟨rfl,hn⟩:=hx.int;exact⟨_,_,_,p,hk,h,c8.refl,.int hn,kG.refl⟩
 .have e:=hx.u8;subst e;exact⟨_,_,_,p,hk,h,c8.refl,.u8,kG.refl⟩
 .have e:=hx.bool;subst e;exact⟨_,_,_,p,hk,h,c8.refl,.bool,kG.refl⟩
 .obtain⟨s,rfl,hs⟩:=hx.str;exact⟨_,_,_,p,hk,h,c8.refl,.str hs,kG.refl⟩
 .exact⟨_,_,_,p,hk,h,c8.refl,hx.bs,kG.refl⟩
 .exact⟨_,_,_,p,hk,h,c8.refl,hx.sl,kG.refl⟩
 .have:ca w p x .nL:=by
   rcases hx with hx | (hx | ⟨df,cs,_,hx,_⟩) | ⟨df,cs,_,hx,_⟩<;>first | cases hx
   assumption
  exact⟨_,_,_,p,hk,h,c8.refl,this,kG.refl⟩
 .exact⟨_,_,_,p,hk,h,c8.refl,hx.k_,kG.refl⟩
 .cases hk
theorem Cs{O:Type}{st:Nat->bM}(h:cp B M w0 p0 w p g st){c:CT}{x:Value}{v:AV}(hx:bE w p g (used st) x v){k:AV->(Nat->bM)->FP->Option O}{r:O}(hk:B_ c v st k=Zz r) :
  ∃ a st' fp p',k a st' fp=Zz r/\cp B M w0 p0 w p' g st'/\c8 w p g (used st) w p' g (used st')/\ca w p' x a:=by
 obtain⟨a,st',fp,p',h1,h2,h3,h4,_⟩:=vE h hx hk;exact⟨a,st',fp,p',h1,h2,h3,h4⟩
theorem qj{O:Type}:∀ {ie:List CT} {vs:List AV} {xs:List Value} {st:Nat->bM} {p:bJ},cp B M w0 p0 w p g st->a_ (cY w p g (used st)) xs vs->∀ {k:List AV->(Nat->bM)->FP->Option O} {r:O},
  nS ie vs st k=Zz r->∃ as st' fp p',k as st' fp=Zz r/\cp B M w0 p0 w p' g st'/\c8 w p g (used st) w p' g (used st')/\a_ (ca w p') xs as/\kG st st'
 | [],[],xs,st,p,h,hx,k,r,hk=>by
  simp only[nS] at hk;have:=hx.kg;subst this;exact⟨_,_,_,p,hk,h,c8.refl,.nil,kG.refl⟩
 | c::cs,v::vs,xs,st,p,h,hx,k,r,hk=>by
  simp only[nS] at hk;obtain⟨x,Sn,rfl,h1,h2⟩:=hx.iV;obtain⟨a,cM,f1,p1,cu,lh,mg,qF,AK⟩:=vE h h1.v hk;obtain⟨as,cm,f2,p2,bq,gZ,mZ,n7,Bv⟩:=qj lh (h2.imp λ_ _=>mg.DG) cu;exact⟨_,_,_,p2,bq,gZ,mg.trans mZ,.cons (mZ.vO qF) n7,AK.trans Bv⟩
 | [],_::_,_,_,_,_,_,_,_,hk=>by simp[nS] at hk
 | _::_,[],_,_,_,_,_,_,_,hk=>by simp[nS] at hk
theorem yD{O:Type}{st:Nat->bM}(h:cp B M w0 p0 w p g st){i:TI}{x:Value}{v:AV}(hx:bE w p g (used st) x v){k:AV->(Nat->bM)->FP->Option O}{r:O}(hk:out i v st k=Zz r) :
  ∃ a st' fp p',k a st' fp=Zz r/\cp B M w0 p0 w p' g st'/\c8 w p g (used st) w p' g (used st')/\kp w p' x a/\kG st st':=by
 unfold out at hk;split at hk
 .obtain⟨df,rfl,hc⟩:=hx.agg;obtain⟨as,st',fp,p',qo,hs,hm,hr,hp⟩:=qj h hc hk;exact⟨_,_,_,p',qo,hs,hm,.inr ⟨df,as,rfl,rfl,hr⟩,hp⟩
 .split at hk
  .obtain⟨a,st',fp,p',qo,hs,hm,hr,hp⟩:=vE h hx hk;exact⟨_,_,_,p',qo,hs,hm,.inl hr,hp⟩
  .cases hk
 .cases hk
theorem AX{O:Type}{st:Nat->bM}(h:cp B M w0 p0 w p g st){i:TI}{x:Value}{v:AV}(hx:bE w p g (used st) x v){k:AV->(Nat->bM)->FP->Option O}{r:O}(hk:out i v st k=Zz r) :
  ∃ a st' fp p',k a st' fp=Zz r/\cp B M w0 p0 w p' g st'/\c8 w p g (used st) w p' g (used st')/\kp w p' x a:=by
 obtain⟨a,st',fp,p',h1,h2,h3,h4,_⟩:=yD h hx hk;exact⟨a,st',fp,p',h1,h2,h3,h4⟩
def GH(B:Nat)(M:Nat->Prop)(w0:World)(p0:bJ)(w:World)(p:bJ)(g:Nat->Value)(st:Nat->bM)(st':Nat->bM)(r:Result Unit):Prop :=
 ∃ w' p' g',r = .ok () w'/\cp B M w0 p0 w' p' g' st'/\c8 w p g (used st) w' p' g' (used st')
theorem N3{J:Type}(c:List J)(j:Nat)(x:J)(h:j<c.length):c.take j++[x]++c.drop (j+1)=c.set j x:=by
 rw[List.set_eq_take_append_cons_drop,Qa1 h];simp
theorem qz{R:Value->AV->Prop}{vs us:List Value}{cs ds:List AV}(h:a_ R vs cs)(k:a_ R us ds)(off:Nat) :
  a_ R (vs.take off++us++vs.drop (off+us.length)) (place cs off ds):=by
 unfold place;rw[k.len];exact((h.take off).append k).append (h.drop _)
theorem pw{t:Nat}{i:TI}(hi:fh P t=Zz i){J off:Nat}{c:Array Value}{e:TypeId}(hh:w.heap[J]? = Zz (.cells c e (0,0))){v:Value}(hl:v.cells.size=i.size)(wE:off+i.size<=c.size)
  (h1:∀ x∈v.cells.toList,x.oneCell'=Zn) :
  (storeVar t ⟨J,off,none⟩ v).run P w = .ok () (w.setRow J (c.toList.take off++v.cells.toList++c.toList.drop (off+v.cells.toList.length)).toArray):=by
 obtain⟨info,z,a1,a2,a3,a4,a5,a6,a7,a8,a9,_⟩:=bA hi;have dJ:=run_storeCells_at (P:=P) J off e v.cells.toList 0 c w hh (by simp;omega) h1;simp only[Nat.add_zero] at dJ;simp[storeVar,run_sizeOf a1,a2,hl,dJ]
theorem KP(a b:List AV)(off:Nat)(n:List AV)(h:off+n.length<=a.length):place (a++b) off n=place a off n++b:=by grind [place]
theorem Ix(a b:List AV)(q:Nat)(n:List AV):place (a++b) (a.length+q) n=a++place b q n:=by
 unfold place;rw[List.take_append,List.drop_append,List.take_of_length_le (by omega),List.drop_of_length_le (by omega)];rw[show a.length+q-a.length=q by omega,show a.length+q+n.length-a.length=q+n.length by omega];simp
theorem Bm{sz off:Nat}{news:List AV}:∀ {els:List AV} {j:Nat} {x x':AV},els[j]? = Zz x->(∀ y∈els,y.cells.length=sz)->x'.cells=place x.cells off news->off+news.length<=sz ->
  (els.set j x').flatMap AV.cells=place (els.flatMap AV.cells) (j*sz+off) news
 | [],j,x,x',h,_,_,_=>by simp at h
 | y::r,0,x,x',h,hs,hx,hf=>by
  simp at h;subst h;have hy:=hs y (by simp);rw[List.set_cons_zero,Zg,Zg,hx,Nat.zero_mul,Nat.zero_add,KP _ _ _ _ (by omega)]
 | y::r,j+1,x,x',h,hs,hx,hf=>by
  simp at h;have hy:=hs y (by simp);have ih:=Bm h (λz hz=>hs z (by simp[hz])) hx hf;rw[List.set_cons_succ,Zg,Zg,ih];rw[show(j+1)*sz+off=y.cells.length+(j*sz+off) by rw[hy,Yy];omega,Ix]
theorem yt(cs:List AV)(off:Nat)(n:List AV)(h:off+n.length<=cs.length):(place cs off n).length=cs.length:=by
 unfold place;simp;omega
theorem yO{c:List Value}{n q:Nat}{us:List Value}(h:q+us.length<=n)(hn:n<=c.length):(c.take q++us++c.drop (q+us.length)).take n=(c.take n).take q++us++(c.take n).drop (q+us.length):=by
 apply List.ext_getElem?;intro i;simp only[Zj,List.getElem?_append,Yx,List.length_append,List.length_take];by_cases h1:i<n
 .by_cases h2:i<q
  .have e1:i<min q c.length+us.length:=by omega
   have e2:i<min q c.length:=by omega
   have e3:i<min q (min n c.length)+us.length:=by omega
   have e4:i<min q (min n c.length):=by omega
   simp[h1,h2,e1,e2,e3,e4]
  .by_cases h3:i<q+us.length
   .have e1:i<min q c.length+us.length:=by omega
    have e2:¬ i<min q c.length:=by omega
    have e3:i<min q (min n c.length)+us.length:=by omega
    have e4:¬ i<min q (min n c.length):=by omega
    simp[h1,e1,e2,e3,e4];congr 1;omega
   .have e1:¬ i<min q c.length+us.length:=by omega
    have e3:¬ i<min q (min n c.length)+us.length:=by omega
    have e5:q+us.length+(i-(min q (min n c.length)+us.length))<n:=by omega
    simp[h1,e1,e3];rw[Qa1 (by omega)];congr 1;omega
 .have e1:¬ i<min q (min n c.length)+us.length:=by omega
  simp[h1,e1];intro h5;omega
theorem IP{O:Type}{E:Env}(fw:∀ t i,E.ty t=Zz i->fh P t=Zz i){fr:Fr}{t:Nat}{i:TI}(hi:fh P t=Zz i)(h:cp B M w0 p0 w p g fr.st){x y:Value}{a b:AV}(hx:bE w p g (used fr.st) x a)(hy:bE w p g (used fr.st) y b){k:ml O}{r:O}
  (hk:ot E fr i a b k=Zz r):∃ st' fp,k .undef st' fp=Zz r/\GH B M w0 p0 w p g fr.st st' ((Instr.storeAt t x y).run P w):=by
 unfold ot at hk;split at hk
 .rename_i kk off;obtain⟨hu,J,hg,rfl⟩:=hx.ptr;have hb:=h.nI kk;split at hk
  .rename_i cs dJ;rw[dJ] at hb;obtain⟨β',c,e,h1,h2,h3,h4,h5⟩:=hb;have:β'=J:=by rw[h1] at hg;cases hg;rfl
   subst this;obtain⟨eu,bq⟩:=cT hk;simp only[Zp,Qb1] at eu;obtain⟨⟨hlen,wE⟩,hcell⟩:=eu;have rI:off+i.size<=cs.length:=Zu wE;have hyc:=hy.cells hcell;rw[vA _ _ _ (by rw[hlen];exact rI)] at bq;refine⟨_,_,bq,?_⟩;have fV:y.cells.size=i.size:=by have:=hyc.len;simp at this;omega
   have ai3:c.size=cs.length:=by have:=h4.len;simpa using this
   have eF:=pw (P:=P) (w:=w) hi h3 (v:=y) (off:=off) fV (by omega) hyc.one;obtain⟨hs,hm⟩:=h.modify (k:=kk) (b := .cells (place cs off b.cells)) (w':=w.setRow β' (c.toList.take off++y.cells.toList++c.toList.drop (off+y.cells.toList.length)).toArray) (p':=p) (β₀:=β') (by rw[dJ];trivial) trivial (by rw[h1];rfl)
    rfl rfl rfl (by simp) (λJ ii=>⟨setRow_other w β' J _ ii,rfl⟩) (λfY=>⟨by rcases h2 with h2 | h2;exact h2;omega,rfl⟩) (Zd _) (λi hi=>by rw[h5] at hi;omega)
    (λhm=>⟨β',_,e,h1,h2,setRow_heap w β' c _ e _ h3,by
     have:=qz h4 hyc off;simpa using this.imp λ_ _=>hm.DG,h5⟩)
   exact⟨_,p,g,by simpa [Instr.storeAt,Instr.sureAddr] using eF,hs,hm⟩
  .cases hk
 .rename_i kk j sz off;obtain⟨hu,J,hg,rfl⟩:=hx.kQ;have hb:=h.nI kk;have key:∀ (l:List UInt8) (c:Array Value) (e:TypeId) (n:Nat) (iO:Bool) (mk:List UInt8->bM),w.heap[J]? = Zz (.cells c e (0,0))->c.toList.take n=l.map ku->(iO=Zv->p J=0)->B<=J->(fr.st kk).live->(∀ l,(mk l).live) ->
    (∀ (xb:UInt8),j<l.length->iO=Zv->∀ (w':World),w'.heap[J]? = Zz (.cells (c.toList.set j (ku xb)).toArray e (0,0))->∀ u',nM w' p g u' B M kk (mk (l.set j xb))) ->
    (b.qd λx=>aB (Zk j l.length&&Zy off 0&&Zy sz 1&&Zy i.size 1 && !iO) (k .undef (cX fr.st kk (mk (l.set j x))) ⟨[kk],[kk]⟩))=Zz r ->
    ∃ st' fp,k .undef st' fp=Zz r/\GH B M w0 p0 w p g fr.st st' ((Instr.storeAt t (.pointer (Zz ⟨J,j*sz+off,none⟩)) y).run P w):=by
   intro l c e n iO mk hh gI hp S4 x6 VF acT bq;unfold AV.qd at bq;split at bq
   .rename_i _ xb;have hyv:=hy.u8;subst hyv;obtain⟨eu,da⟩:=aL bq;simp only[Zp,Bool.not_eq_true'] at eu;obtain⟨⟨⟨⟨hj,ho⟩,hs⟩,lh⟩,FC⟩:=eu;have fY:j<l.length:=Zu hj;have fV:i.size=1:=Zx lh;have Ko:=Zx ho;have hs':=Zx hs;subst Ko;subst hs';subst FC;have hjc:j<c.size:=by
     have:=Qb5 List.length gI;simp at this;omega
    have eF:=pw (P:=P) (w:=w) hi hh (v:=ku xb) (off:=j) (by simp[ku,Value.cells,fV]) (by omega) (λx hx=>by simp[ku,Value.cells] at hx;subst hx;rfl);refine⟨_,_,da,?_⟩;have dP:(ku xb).cells.toList=[ku xb]:=rfl;rw[dP] at eF;simp only[List.length_singleton] at eF;rw[N3 _ _ _ (by simpa using hjc)] at eF;obtain⟨hs,hm⟩:=h.modify (k:=kk) (b:=mk (l.set j xb)) (w':=w.setRow J (c.toList.set j (ku xb)).toArray) (p':=p) (β₀:=J) x6 (VF _) hg
     rfl rfl rfl (by simp) (λβ' ii=>⟨setRow_other w J β' _ ii,rfl⟩) (λfY=>by omega) (Zd _) (λi hi=>by rw[hp rfl] at hi;omega)
     (λhm=>acT xb fY rfl _ (setRow_heap w J c _ e _ hh) _)
    exact⟨_,p,g,by simpa [Instr.storeAt,Instr.sureAddr] using eF,hs,hm⟩
   .cases bq
  split at hk
  .rename_i e l iO dJ;rw[dJ] at hb;obtain⟨⟨hlen,⟨hn,a,hv⟩ | ⟨β',cap,kC,hv,h0,hB,hh,tn,zZ,hcs,gI⟩⟩,hp⟩:=hb
   .rw[hv] at hg;cases a<;>simp[bV] at hg
   .have Pp:β'=J:=by rw[hv] at hg;simp[bV] at hg;exact hg.2
    subst Pp;refine key l kC e _ iO (λl => .fg e l Zv) hh gI ((hp β' hg).2) hB (by rw[dJ];trivial) (λ_=>trivial) ?_ hk;intro xb fY FC w' PK u';refine⟨⟨by simp,.inr ⟨β',cap,_,hv.trans (by simp),h0,hB,PK,by simpa using tn,zZ,?_,?_⟩⟩,λJ ox=> ?_⟩
    .simpa using hcs
    .simp only[List.length_set];rw[List.take_set,gI,List.map_set]
    .rw[hg] at ox;cases ox;exact⟨by rw[(hp β' hg).2 FC];exact Nat.zero_le _,λ_=>(hp β' hg).2 FC⟩
  .rename_i l iO dJ;rw[dJ] at hb;obtain⟨β',c,e,h1,h2,h3,h4,h5,h6⟩:=hb;have Pp:β'=J:=by rw[h1] at hg;simp[bV] at hg;exact hg
   subst Pp;refine key l c e c.size iO (λl => .jx l Zv) h3 (by rw[List.take_of_length_le (by simp)];exact h4) h6 h2 (by rw[dJ];trivial) (λ_=>trivial) ?_ hk;intro xb fY FC w' PK u';refine⟨β',_,e,h1,h2,PK,?_,by rw[h6 FC];exact Nat.zero_le _,λ_=>h6 FC⟩;show c.toList.set j (ku xb)=_;rw[h4,List.map_set]
  .rename_i e z l iO dJ;split at hk
   .rename_i ei jm;obtain⟨eu,bq⟩:=aL hk;simp only[Zp,Bool.not_eq_true'] at eu;obtain⟨⟨hj0,hz⟩,ahM⟩:=eu;have PN:=Zx hz;subst PN;obtain⟨v',cM,f1,p1,da,lh,mg,qF⟩:=AX h hy bq;have vt:=lh.nI kk;split at da
    .rename_i e1 z1 l1 Bz;have n6:=jS da;obtain⟨eu,zn⟩:=cT n6;simp only[Zp,Qb1] at eu;obtain⟨⟨⟨⟨PA,wE⟩,kU⟩,Ng⟩,XC⟩:=eu;have VW:=Zx Ng;subst VW;have rI:=Zu wE;have z6:0<i.size:=Zu kU;have M9:j<l1.length:=Zu XC;rw[Bz] at vt;obtain⟨tp,fV,vs,bR,dP,hp⟩:=vt;obtain⟨hlen,⟨hn,a,hv⟩ | ⟨β',cap,kC,hv,h0,hB,hh,tn,zZ,hcs,gI⟩⟩:=bR
     .omega
     .have Pp:β'=J:=by rw[hv] at hg;simp[bV] at hg;exact hg.2
      subst Pp;have uB:l1[j]? = Zz (l1.getD j .undef):=by simp[M9]
      have hold:(l1.getD j .undef).cells.length=z1:=fV _ (List.mem_of_getElem? uB);have Nc:=qF.cells;have PJ:y.cells.toList.length=i.size:=by rw[Nc.len,PA]
      have HQ:y.cells.size=i.size:=by simpa using PJ
      have XI:=(hp β' hg).2 rfl;have Bt:(j+1)*z1<=l1.length*z1:=Zm z1 M9;rw[Yy] at Bt;have ac2:l1.length*z1<=cap*z1:=Zm z1 tn;have eF:=pw (P:=P) (w:=w) hi hh (v:=y) (off:=j*z1+off) HQ (by rw[hcs];omega) Nc.Wa;obtain⟨info,z,a1,a2,a3,a4,a5,a6,a7,a8,a9,_⟩:=bA (fw _ _ jm);have PL:(tz ei (l1.getD j .undef) off v'.cells).cells=place (l1.getD j .undef).cells off v'.cells:=by
       unfold tz;split
       .rfl
       .rename_i tG;have yV:=Em da tG;have Sx:z1=1:=by rw[<-hold,yV];rfl
        have Bu:v'.cells.length=1:=by rw[yV] at rI;simp at rI;omega
        have ho0:off=0:=by rw[yV] at rI;simp at rI;omega
        obtain⟨c,Dr⟩:=List.length_eq_one_iff.1 Bu;rw[Dr] at Nc ⊢;obtain⟨cv,_,_,Ps,_⟩:=Nc.iV;rw[yV,ho0];simp[place,Ps.tY.2.2.1]
      refine⟨_,_,zn,?_⟩;obtain⟨gZ,mZ⟩:=lh.modify (k:=kk) (b := .dG e1 z1 (l1.set j (tz ei (l1.getD j .undef) off v'.cells)) Zv) (w':=w.setRow β' (kC.toList.take (j*z1+off)++y.cells.toList++kC.toList.drop (j*z1+off+y.cells.toList.length)).toArray) (p':=p1) (β₀:=β')
       (by rw[Bz];trivial) trivial hg rfl rfl rfl (by simp) (λJ ii=>⟨setRow_other w β' J _ ii,rfl⟩) (λfY=>by omega) (Zd _) (λq hq=>by rw[XI] at hq;omega)
       (λhm=>by
        refine⟨tp,λq hq=> ?_,vs.take (j*z1+off)++y.cells.toList++vs.drop (j*z1+off+y.cells.toList.length),⟨?_,.inr ⟨β',cap,_,hv.trans (by simp),h0,hB,setRow_heap w β' kC _ e1 _ hh,by simpa using tn,zZ,?_,?_⟩⟩,?_,λJ ox=> ?_⟩
        .rcases List.mem_or_eq_of_mem_set hq with hq | rfl
         .exact fV q hq
         .rw[PL,yt _ _ _ (by rw[PA];omega),hold]
        .simp;omega
        .simp;omega
        .simp only[List.length_set];rw[yO (by omega) (by simp;omega),gI]
        .rw[Bm uB fV PL (by rw[PA,<-hold];omega)];have:=qz dP (Nc) (j*z1+off);exact this.imp λ_ _=>hm.vO
        .rw[hg] at ox;cases ox;exact⟨by rw[XI];exact Nat.zero_le _,λ_=>XI⟩)
      exact⟨_,p1,g,by simpa [Instr.storeAt,Instr.sureAddr] using eF,gZ,mg.trans mZ⟩
    .cases da
   .cases hk
  .rename_i e z l dJ;split at hk
   .rename_i ei jm;obtain⟨eu,bq⟩:=aL hk;simp only[Zp] at eu;obtain⟨hj0,hz⟩:=eu;have PN:=Zx hz;subst PN;obtain⟨v',cM,f1,p1,da,lh,mg,qF⟩:=AX h hy bq;have vt:=lh.nI kk;split at da
    .rename_i e1 z1 l1 Bz;have n6:=jS da;obtain⟨eu,zn⟩:=cT n6;simp only[Zp,Qb1] at eu;obtain⟨⟨⟨⟨PA,wE⟩,kU⟩,Ng⟩,XC⟩:=eu;have VW:=Zx Ng;subst VW;have rI:=Zu wE;have z6:0<i.size:=Zu kU;have M9:j<l1.length:=Zu XC;rw[Bz] at vt;obtain⟨β',cap,hv,hB,tp,fV,h0,tn,zZ,XI,kC,vs,hh,hcs,hlen,gI,dP⟩:=vt
     .have Pp:β'=J:=by rw[hv] at hg;simp[bV] at hg;exact hg.2
      subst Pp;have uB:l1[j]? = Zz (l1.getD j .undef):=by simp[M9]
      have hold:(l1.getD j .undef).cells.length=z1:=fV _ (List.mem_of_getElem? uB);have Nc:=qF.cells;have PJ:y.cells.toList.length=i.size:=by rw[Nc.len,PA]
      have HQ:y.cells.size=i.size:=by simpa using PJ
      have Bt:(j+1)*z1<=l1.length*z1:=Zm z1 M9;rw[Yy] at Bt;have ac2:l1.length*z1<=cap*z1:=Zm z1 tn;have eF:=pw (P:=P) (w:=w) hi hh (v:=y) (off:=j*z1+off) HQ (by rw[hcs];omega) Nc.Wa;obtain⟨info,z,a1,a2,a3,a4,a5,a6,a7,a8,a9,_⟩:=bA (fw _ _ jm);have PL:(tz ei (l1.getD j .undef) off v'.cells).cells=place (l1.getD j .undef).cells off v'.cells:=by
       unfold tz;split
       .rfl
       .rename_i tG;have yV:=Em da tG;have Sx:z1=1:=by rw[<-hold,yV];rfl
        have Bu:v'.cells.length=1:=by rw[yV] at rI;simp at rI;omega
        have ho0:off=0:=by rw[yV] at rI;simp at rI;omega
        obtain⟨c,Dr⟩:=List.length_eq_one_iff.1 Bu;rw[Dr] at Nc ⊢;obtain⟨cv,_,_,Ps,_⟩:=Nc.iV;rw[yV,ho0];simp[place,Ps.tY.2.2.1]
      refine⟨_,_,zn,?_⟩;obtain⟨gZ,mZ⟩:=lh.modify (k:=kk) (b := .jh e1 z1 (l1.set j (tz ei (l1.getD j .undef) off v'.cells))) (w':=w.setRow β' (kC.toList.take (j*z1+off)++y.cells.toList++kC.toList.drop (j*z1+off+y.cells.toList.length)).toArray) (p':=p1) (β₀:=β')
       (by rw[Bz];trivial) trivial hg rfl rfl rfl (by simp) (λJ ii=>⟨setRow_other w β' J _ ii,rfl⟩) (λfY=>⟨hB.resolve_right (by omega),rfl⟩) (Zd _) (λq hq=>by rw[XI] at hq;omega)
       (λhm=>by
        refine⟨β',cap,hv.trans (by simp),hB,tp,λq hq=> ?_,h0,by simpa using tn,zZ,XI,_,vs.take (j*z1+off)++y.cells.toList++vs.drop (j*z1+off+y.cells.toList.length),setRow_heap w β' kC _ e1 _ hh,?_,?_,?_,?_⟩
        .rcases List.mem_or_eq_of_mem_set hq with hq | rfl
         .exact fV q hq
         .rw[PL,yt _ _ _ (by rw[PA];omega),hold]
        .simp;omega
        .simp;omega
        .simp only[List.length_set];rw[yO (by omega) (by simp;omega),gI]
        .rw[Bm uB fV PL (by rw[PA,<-hold];omega)];have:=qz dP (Nc) (j*z1+off);exact this.imp λ_ _=>hm.vO)
      exact⟨_,p1,g,by simpa [Instr.storeAt,Instr.sureAddr] using eF,gZ,mg.trans mZ⟩
    .cases da
   .cases hk
  .cases hk
 .cases hk
end
end Go.Abs
