/- The abstract interpreter: values, stores, operations, code. Plain definitions; nothing is claimed here. -/
import GoSem.Step
namespace Kerb
def imin (n m:Int):Int:=if m<n then m else n
def imax (n m:Int):Int:=if m>n then m else n
end Kerb
namespace Go.Abs
set_option linter.unusedVariables false
inductive AV where
 | undef
 | int (k:IntKind) (n:Int)
 | u8 (b:UInt8)
 | bool (b:Bool)
 | str (s:List UInt8)
 | bs (l:List UInt8)
 | sl (sz:Nat) (els:List AV)
 | nils
 | row (k:Nat)
 | ptr (k off:Nat)
 | eptr (k i sz off:Nat)
 | rptr (cs:List AV)
 | nilp
 | agg (cs:List AV)
 | tup (vs:List AV)
 | ownB (l:List UInt8)
 | ownL (els:List AV)
 | psl (k:Nat) (offs:List Nat)
 | pptr (k off:Nat)
 | pre (k n:Nat)
 | suf (k m:Nat)
 | fn (f:Nat)
 | clo (f:Nat) (fs cs:List (Nat×Nat))
inductive Blk where
 | free
 | dead
 | cells (cs:List AV)
 | barr (l:List UInt8) (pub:Bool)
 | rowB (e:Nat) (l:List UInt8) (pub:Bool)
 | rowL (e sz:Nat) (els:List AV) (pub:Bool)
inductive CT where
 | int (k:IntKind) | u8 | bool | str | bsl | sl (sz:Nat) | ptr | other
inductive TK where
 | int (k:IntKind) | u8 | bool | str
 | slice (e:Nat) (byte:Bool)
 | arr (n e:Nat) (byte:Bool)
 | struct (fs:List (Nat×Nat))
 | ptr (e:Nat)
 | other
structure TI where
 size:Nat
 bytes:Nat
 kind:TK
 zero:List AV
 cts:List CT
 eqc:List CT
inductive KC where
 | imm (c:CT)
 | own (key e z:Nat) (byte:Bool)
inductive Keep where
 | val (slot ty:Nat)
 | rowB (slot e:Nat) (pub:Bool)
 | rowL (slot e sz:Nat) (pub:Bool)
 | ptr (slot k off:Nat)
 | cells (k:Nat) (cts:List CT)
 | barr (k:Nat) (pub:Bool)
 | psl (slot k:Nat) (offs:List Nat)
 | cellsR (k:Nat) (kcs:List KC)
abbrev Blocks:=List (List AV)
abbrev CallT:=Nat→List AV→List (Nat×List AV)→Option (AV×Blocks)
structure Fr where
 slots:Nat→AV
 st:Nat→Blk
structure FP where
 rd:List Nat
 wr:List Nat
def FP.none:FP:=⟨[],[]⟩
abbrev Ret (α:Type):=AV→(Nat→Blk)→FP→Option α
def merge (wr:List Nat) (s1 s2:Nat→Blk):Nat→Blk:=fun x=>if x∈wr then s1 x else s2 x
abbrev StT (A:Type):=(β:Type)→(Nat→Blk)→(A→(Nat→Blk)→FP→Option β)→Option β
structure Loc {A:Type} (T:StT A) (st:Nat→Blk) (a:A) (st':Nat→Blk) (fp:FP):Prop where
 eff:∀ x,x ∉ fp.wr→st' x=st x
 run:∀ st2,(∀ x∈fp.rd,st2 x=st x)→∀ β k2,T β st2 k2=k2 a (merge fp.wr st' st2) fp
structure IsLoc {A:Type} (T:StT A):Prop where
 go:∀ {α:Type} {st:Nat→Blk} {k:A→(Nat→Blk)→FP→Option α} {r:α},T α st k=some r→∃ a st' fp,k a st' fp=some r∧Loc T st a st' fp
structure InlR where
 run:(α:Type)→Nat→List AV→(Nat→Blk)→Ret α→Option α
 loc:∀ kb args,IsLoc (fun β s k=>run β kb args s k)
structure Env where
 ty:Nat→Option TI
 keep:Nat→List Keep
 own:Nat→Bool
 call:CallT
 glob:Nat→Option (List AV)
 hand:List Nat
 kb:Nat
 inl:Nat→Option InlR
section
variable {α:Type}
def AV.onInt (kd:IntKind) (v:AV) (f:Int→Option α):Option α:=match v with | .int k n=>bif k==kd then f n else none | _=>none
def AV.onU8 (v:AV) (f:UInt8→Option α):Option α:=match v with | .u8 b=>f b | _=>none
def AV.onBool (v:AV) (f:Bool→Option α):Option α:=match v with | .bool b=>f b | _=>none
def AV.onGuard (v:AV) (f:Bool→Option α) (s:Option α):Option α:=match v with | .bool b=>f b | .tup []=>s | _=>none
def AV.onClo (v:AV) (f:Nat→List (Nat×Nat)→List (Nat×Nat)→Option α):Option α:=match v with | .fn n=>f n [] [] | .clo n a b=>f n a b | _=>none
def ptrs:List AV→Option (List (Nat×Nat))
 | []=>some []
 | .ptr k o::r=>(ptrs r).map ((k,o) :: ·)
 | _=>none
def ofPtrs (l:List (Nat×Nat)):List AV:=l.map fun x => .ptr x.1 x.2
def AV.onStr (v:AV) (f:List UInt8→Option α):Option α:=match v with | .str s=>f s | _=>none
def AV.onBs (v:AV) (f:List UInt8→Option α):Option α:=match v with | .bs l=>f l | _=>none
def AV.onSl (sz:Nat) (v:AV) (f:List AV→Option α):Option α:=match v with | .sl z l=>bif Nat.beq z sz then f l else none | _=>none
def AV.onAgg (v:AV) (f:List AV→Option α):Option α:=match v with | .agg l=>f l | _=>none
def AV.onTup (v:AV) (f:List AV→Option α):Option α:=match v with | .tup l=>f l | _=>none
def AV.onOwnB (v:AV) (f:List UInt8→Option α):Option α:=match v with | .ownB l=>f l | _=>none
def AV.onOwnL (v:AV) (f:List AV→Option α):Option α:=match v with | .ownL l=>f l | _=>none
def onCons (l:List AV) (f:AV→List AV→Option α):Option α:=match l with | x::r=>f x r | []=>none
def onNil (l:List AV) (f:Option α):Option α:=match l with | []=>f | _::_=>none
def chk (b:Bool) (f:Option α):Option α:=cond b f none
def sel (b:Bool) (f g:Option α):Option α:=cond b f g
def onNilB (l:List (List AV)) (f:Option α):Option α:=match l with | []=>f | _::_=>none
def onConsB (l:List (List AV)) (f:List AV→List (List AV)→Option α):Option α:=match l with | x::r=>f x r | []=>none
end
def ctMatch:List CT→List AV→Bool
 | [],[]=>true
 | .int k::cs,.int k' _::vs=>k==k'&&ctMatch cs vs
 | .u8::cs,.u8 _::vs=>ctMatch cs vs
 | .bool::cs,.bool _::vs=>ctMatch cs vs
 | .str::cs,.str _::vs=>ctMatch cs vs
 | _,_=>false
def AV.cells:AV→List AV
 | .agg cs=>cs
 | v=>[v]
def AV.isCell:AV→Bool
 | .int .. | .u8 _ | .bool _ | .str _ | .bs _ | .sl .. | .nils | .row _ | .ptr .. | .eptr .. | .rptr _ | .nilp | .psl .. | .pptr .. | .pre .. | .suf .. | .fn _ | .clo .. => true
 | _=>false
def mkInt (k:IntKind) (n:Int):AV:=match k with | .u8 => .u8 (UInt8.ofNat n.toNat) | k => .int k n
def ofCell:Value→Option AV
 | .bool b=>some (.bool b)
 | .int k n=>match k with
  | .u8=>bif decide (0≤n)&&decide (n<256) then some (.u8 (UInt8.ofNat n.toNat)) else none
  | k=>some (.int k n)
 | .string s=>some (.str s.data.toList)
 | .slice none 0 0=>some .nils
 | .pointer none=>some .nilp
 | _=>none
def ofCells:List Value→Option (List AV)
 | []=>some []
 | v::r=>match ofCell v,ofCells r with | some a,some l=>some (a::l) | _,_=>none
def ofVal (v:Value):Option AV :=
 match v with
 | .agg cs=>(ofCells cs.toList).map .agg
 | v=>ofCell v
section ops
variable {α:Type} (E:Env)
def norm1 (c:CT) (v:AV) (k:AV→Option α):Option α :=
 match c with
 | .int kd=>v.onInt kd fun n=>k (.int kd n)
 | .u8=>v.onU8 fun b=>k (.u8 b)
 | .bool=>v.onBool fun b=>k (.bool b)
 | .str=>v.onStr fun b=>k (.str b)
 | .bsl=>v.onBs fun b=>k (.bs b)
 | .sl z=>v.onSl z fun b=>k (.sl z b)
 | _=>none
def normCs:List CT→List AV→(List AV→Option α)→Option α
 | [],l,k=>onNil l (k [])
 | c::cs,l,k=>onCons l fun x r=>norm1 c x fun x'=>normCs cs r fun r'=>k (x'::r')
def isAggK:TK→Bool
 | .struct _ | .arr .. => true
 | _=>false
def norm (i:TI) (v:AV) (k:AV→Option α):Option α :=
 match isAggK i.kind with
 | true=>v.onAgg fun cs=>normCs i.cts cs fun cs'=>k (.agg cs')
 | false=>match i.cts with
  | [c]=>norm1 c v k
  | _=>none
def upd {β:Type} (f:Nat→β) (k:Nat) (b:β):Nat→β:=fun x=>bif Nat.beq x k then b else f x
def out1 (c:CT) (v:AV) (st:Nat→Blk) (k:AV→(Nat→Blk)→FP→Option α):Option α :=
 match c,v with
 | .bsl,.nils=>k (.bs []) st .none
 | .sl z,.nils=>k (.sl z []) st .none
 | _,.row r=>match st r with
  | .rowB e l _=>k (.bs l) (upd st r (.rowB e l true)) ⟨[r],[r]⟩
  | .rowL e z l _=>k (.sl z l) (upd st r (.rowL e z l true)) ⟨[r],[r]⟩
  | _=>none
 | _,.int kd n=>k (.int kd n) st .none
 | _,.u8 b=>k (.u8 b) st .none
 | _,.bool b=>k (.bool b) st .none
 | _,.str s=>k (.str s) st .none
 | _,.bs l=>k (.bs l) st .none
 | _,.sl z l=>k (.sl z l) st .none
 | _,.nilp=>k .nilp st .none
 | _,.rptr cs=>k (.rptr cs) st .none
 | _,_=>none
def FP.add (a b:FP):FP:=⟨a.rd++b.rd,a.wr++b.wr⟩
def outCs:List CT→List AV→(Nat→Blk)→(List AV→(Nat→Blk)→FP→Option α)→Option α
 | [],[],st,k=>k [] st .none
 | c::cs,v::vs,st,k=>out1 c v st fun a st1 f1=>outCs cs vs st1 fun l st2 f2=>k (a::l) st2 (f1.add f2)
 | _,_,_,_=>none
def out (i:TI) (v:AV) (st:Nat→Blk) (k:AV→(Nat→Blk)→FP→Option α):Option α :=
 match isAggK i.kind,v with
 | true,.agg cs=>outCs i.cts cs st fun l st' f=>k (.agg l) st' f
 | false,v=>match i.cts with
  | [c]=>out1 c v st k
  | _=>none
 | _,_=>none
def outA (i:TI) (v:AV) (st:Nat→Blk) (k:AV→(Nat→Blk)→FP→Option α):Option α :=
 match v with
 | .nils=>k .nils st .none
 | v=>out i v st k
def intsOf (x y:AV) (k:IntKind→Int→Int→Option α):Option α :=
 match x,y with
 | .int a n,.int b m=>bif a==b then k a n m else none
 | .u8 n,.u8 m=>k .u8 n.toNat m.toNat
 | _,_=>none
def cellEq:AV→AV→Option Bool
 | .int a n,.int b m=>bif a==b then some (n==m) else none
 | .u8 n,.u8 m=>some (n==m)
 | .bool a,.bool b=>some (a==b)
 | .str a,.str b=>some (a==b)
 | _,_=>none
def andO (a b:Option Bool):Option Bool:=match a with
 | some x=>match b with
  | some y=>some (x&&y)
  | none=>none
 | none=>none
def cellsEq:List AV→List AV→Option Bool
 | [],[]=>some true
 | [x],[y]=>cellEq x y
 | x::xs,y::ys=>andO (cellEq x y) (cellsEq xs ys)
 | _,_=>none
def shiftAmt:AV→Option Int
 | .int _ n=>some n
 | .u8 b=>some b.toNat
 | _=>none
def doBin (op:BinOp) (x y:AV):Option AV :=
 match op with
 | .shl=>match x,shiftAmt y with
  | .int k n,some m=>chk (decide (0≤m)) (some (.int k (k.wrap (n*2 ^ (min m.toNat k.bits)))))
  | .u8 n,some m=>chk (decide (0≤m)) (some (mkInt .u8 (IntKind.u8.wrap ((n.toNat:Int)*2 ^ (min m.toNat 8)))))
  | _,_=>none
 | .shr=>match x,shiftAmt y with
  | .int k n,some m=>chk (decide (0≤m)) (some (.int k (n.fdiv (2 ^ (min m.toNat k.bits)))))
  | .u8 n,some m=>chk (decide (0≤m)) (some (mkInt .u8 ((n.toNat:Int).fdiv (2 ^ (min m.toNat 8)))))
  | _,_=>none
 | .add=>match x,y with
  | .str a,.str b=>chk (decide (a.length+b.length≤4611686018427387904)) (some (.str (a++b)))
  | x,y=>intsOf x y fun k n m=>some (mkInt k (k.wrap (n+m)))
 | .sub=>intsOf x y fun k n m=>some (mkInt k (k.wrap (n-m)))
 | .mul=>intsOf x y fun k n m=>some (mkInt k (k.wrap (n*m)))
 | .quo=>intsOf x y fun k n m=>chk (!(m==0)) (some (mkInt k (k.wrap (n.tdiv m))))
 | .rem=>intsOf x y fun k n m=>chk (!(m==0)) (some (mkInt k (n.tmod m)))
 | .and=>intsOf x y fun k n m=>some (mkInt k (k.wrap (BitVec.ofInt k.bits n &&& BitVec.ofInt k.bits m).toNat))
 | .or=>intsOf x y fun k n m=>some (mkInt k (k.wrap (BitVec.ofInt k.bits n ||| BitVec.ofInt k.bits m).toNat))
 | .xor=>intsOf x y fun k n m=>some (mkInt k (k.wrap (BitVec.ofInt k.bits n ^^^ BitVec.ofInt k.bits m).toNat))
 | .lss=>match x,y with
  | .str a,.str b=>some (.bool (Op.bytesLess a b))
  | x,y=>intsOf x y fun _ n m=>some (.bool (decide (n<m)))
 | .leq=>match x,y with
  | .str a,.str b=>some (.bool (Op.bytesLess a b||a==b))
  | x,y=>intsOf x y fun _ n m=>some (.bool (decide (n≤m)))
 | .gtr=>match x,y with
  | .str a,.str b=>some (.bool (!(Op.bytesLess a b||a==b)))
  | x,y=>intsOf x y fun _ n m=>some (.bool (decide (n>m)))
 | .geq=>match x,y with
  | .str a,.str b=>some (.bool !(Op.bytesLess a b))
  | x,y=>intsOf x y fun _ n m=>some (.bool (decide (n≥m)))
 | .eql=>match x,y with
  | .agg a,.agg b=>(cellsEq a b).map .bool
  | x,y=>(cellEq x y).map .bool
 | .neq=>match x,y with
  | .agg a,.agg b=>(cellsEq a b).map fun c => .bool !c
  | x,y=>(cellEq x y).map fun c => .bool !c
 | _=>none
def doBinC (op:BinOp) (x y:AV):Option (Bool×AV) :=
 match op with
 | .shl=>match x,shiftAmt y with
  | .int k n,some m=>some (decide (0≤m),.int k (k.wrap (n*2 ^ (min m.toNat k.bits))))
  | .u8 n,some m=>some (decide (0≤m),mkInt .u8 (IntKind.u8.wrap ((n.toNat:Int)*2 ^ (min m.toNat 8))))
  | _,_=>none
 | .shr=>match x,shiftAmt y with
  | .int k n,some m=>some (decide (0≤m),.int k (n.fdiv (2 ^ (min m.toNat k.bits))))
  | .u8 n,some m=>some (decide (0≤m),mkInt .u8 ((n.toNat:Int).fdiv (2 ^ (min m.toNat 8))))
  | _,_=>none
 | .add=>match x,y with
  | .str a,.str b=>some (decide (a.length+b.length≤4611686018427387904),.str (a++b))
  | x,y=>(doBin .add x y).map fun v=>(true,v)
 | .quo=>intsOf x y fun k n m=>some (!(m==0),mkInt k (k.wrap (n.tdiv m)))
 | .rem=>intsOf x y fun k n m=>some (!(m==0),mkInt k (n.tmod m))
 | op=>(doBin op x y).map fun v=>(true,v)
def mm2 (mx:Bool) (x y:AV):Option AV :=
 match x,y with
 | .int a n,.int b m=>bif a==b then some (.int a (match mx with | true=>Kerb.imax n m | false=>Kerb.imin n m)) else none
 | _,_=>none
def mmFold (mx:Bool):AV→List AV→Option AV
 | x,[]=>match x with
  | .int k n=>some (.int k n)
  | _=>none
 | x,y::r=>(mm2 mx x y).bind fun z=>mmFold mx z r
def mmAll (mx:Bool):List AV→Option AV
 | []=>none
 | x::r=>mmFold mx x r
def doUn (op:UnOp) (x:AV):Option AV :=
 match op,x with
 | .not,.bool b=>some (.bool !b)
 | .neg,.int k n=>some (.int k (k.wrap (0-n)))
 | _,_=>none
def bytesOf (st:Nat→Blk) (v:AV) (k:List UInt8→FP→Option α):Option α :=
 match v with
 | .bs l=>k l .none
 | .nils=>k [] .none
 | .row r=>match st r with
  | .rowB _ l _=>k l ⟨[r],[]⟩
  | _=>none
 | _=>none
def elsOf (sz:Nat) (st:Nat→Blk) (v:AV) (k:List AV→FP→Option α):Option α :=
 match v with
 | .sl z l=>bif Nat.beq z sz then k l .none else none
 | .nils=>k [] .none
 | .row r=>match st r with
  | .rowL _ z l _=>bif Nat.beq z sz then k l ⟨[r],[]⟩ else none
  | _=>none
 | _=>none
def lenOf (st:Nat→Blk) (v:AV) (k:Nat→FP→Option α):Option α :=
 match v with
 | .bs l=>k l.length .none
 | .sl _ l=>k l.length .none
 | .nils=>k 0 .none
 | .psl _ offs=>k offs.length .none
 | .row r=>match st r with
  | .rowB _ l _=>k l.length ⟨[r],[]⟩
  | .rowL _ _ l _=>k l.length ⟨[r],[]⟩
  | _=>none
 | _=>none
def u8s:List AV→Option (List UInt8)
 | []=>some []
 | .u8 b::r=>(u8s r).map (b :: ·)
 | _=>none
def place (cs:List AV) (off:Nat) (news:List AV):List AV:=cs.take off++news++cs.drop (off+news.length)
def placeL:List AV→Nat→List AV→List AV
 | [],_,_=>[]
 | c::cs,0,n=>match n with
  | []=>c::cs
  | x::r=>x::placeL cs 0 r
 | c::cs,k+1,n=>c::placeL cs k n
def fill (offs:Nat→Option (Nat×Nat)):List (Nat×AV)→List AV→Option (List AV)
 | [],cs=>some cs
 | (i,v)::r,cs=>match offs i with
  | some q=>bif v.cells.length==q.2&&Nat.ble (q.1+q.2) cs.length&&v.cells.all AV.isCell then fill offs r (placeL cs q.1 v.cells) else none
  | none=>none
end ops
def evalO (E:Env) (fr:Fr):Operand→Option AV
 | .tmp t=>some (fr.slots t)
 | .const v=>ofVal v
 | .global g=>(E.glob g).map .rptr
 | .func f=>some (.fn f)
def evalAll (E:Env) (fr:Fr):List Operand→Option (List AV)
 | []=>some []
 | x::r=>match evalO E fr x,evalAll E fr r with | some a,some l=>some (a::l) | _,_=>none
def evalParts (E:Env) (fr:Fr):List (Nat×Operand)→Option (List (Nat×AV))
 | []=>some []
 | (i,x)::r=>match evalO E fr x,evalParts E fr r with | some a,some l=>some ((i,a)::l) | _,_=>none
section step
variable {α:Type} (E:Env) (fr:Fr)
def newBlk (t:Nat) (b:Blk) (v:AV) (k:Ret α):Option α :=
 match fr.st t with
 | .free=>k v (upd fr.st t b) ⟨[t],[t]⟩
 | _=>none
def loadCells (i:TI) (cs:List AV) (k:AV→Option α):Option α :=
 bif Nat.ble i.size cs.length then
  match isAggK i.kind with
  | true=>k (.agg (cs.take i.size))
  | false=>match cs with
   | c::_=>k c
   | []=>none
 else none
def doLoad (i:TI) (a:AV) (k:Ret α):Option α :=
 match a with
 | .ptr b off=>match fr.st b with
  | .cells cs=>loadCells i (cs.drop off) fun v=>k v fr.st ⟨[b],[]⟩
  | _=>none
 | .rptr cs=>loadCells i cs fun v=>k v fr.st .none
 | .pptr b off=>match i.kind with
  | .ptr _=>chk (Nat.beq i.size 1) (k (.ptr b off) fr.st .none)
  | _=>none
 | .eptr b j sz off=>match fr.st b with
  | .rowB _ l _=>chk (Nat.blt j l.length&&Nat.beq off 0&&Nat.beq sz 1 && !isAggK i.kind) (k (.u8 (l.getD j 0)) fr.st ⟨[b],[]⟩)
  | .barr l _=>chk (Nat.blt j l.length&&Nat.beq off 0&&Nat.beq sz 1 && !isAggK i.kind) (k (.u8 (l.getD j 0)) fr.st ⟨[b],[]⟩)
  | .rowL e z l _=>match E.ty e with
   | some ei=>chk (Nat.blt j l.length&&Nat.beq z sz) (norm ei (l.getD j .undef) fun v=>loadCells i (v.cells.drop off) fun v=>k v fr.st ⟨[b],[]⟩)
   | none=>none
  | _=>none
 | _=>none
def setEl (ei:TI) (old:AV) (off:Nat) (news:List AV):AV:=match isAggK ei.kind with
 | true => .agg (place old.cells off news)
 | false=>news.headD .undef
def doStore (i:TI) (a v:AV) (k:Ret α):Option α :=
 match a with
 | .ptr b off=>match fr.st b with
  | .cells cs=>bif v.cells.length==i.size&&Nat.ble (off+i.size) cs.length&&v.cells.all AV.isCell then k .undef (upd fr.st b (.cells (placeL cs off v.cells))) ⟨[b],[b]⟩ else none
  | _=>none
 | .eptr b j sz off=>match fr.st b with
  | .rowB e l pub=>v.onU8 fun x=>chk (Nat.blt j l.length&&Nat.beq off 0&&Nat.beq sz 1&&Nat.beq i.size 1 && !pub) (k .undef (upd fr.st b (.rowB e (l.set j x) false)) ⟨[b],[b]⟩)
  | .barr l pub=>v.onU8 fun x=>chk (Nat.blt j l.length&&Nat.beq off 0&&Nat.beq sz 1&&Nat.beq i.size 1 && !pub) (k .undef (upd fr.st b (.barr (l.set j x) false)) ⟨[b],[b]⟩)
  | .rowL e z l pub=>match E.ty e with
   | some ei=>chk (Nat.blt j l.length&&Nat.beq z sz && !pub) (out i v fr.st fun v' st1 f1=>match st1 b with
    | .rowL e1 z1 l1 false=>norm ei (l1.getD j .undef) fun old =>
      chk (v'.cells.length==i.size&&Nat.ble (off+i.size) old.cells.length&&Nat.blt 0 i.size&&Nat.beq z1 z&&Nat.blt j l1.length)
       (k .undef (upd st1 b (.rowL e1 z1 (l1.set j (setEl ei old off v'.cells)) false)) (f1.add ⟨[b],[b]⟩))
    | _=>none)
   | none=>none
  | _=>none
 | _=>none
def doFieldAddr (q:Nat) (v:AV) (k:Ret α):Option α :=
 match v with
 | .ptr b off=>k (.ptr b (off+q)) fr.st .none
 | .rptr cs=>k (.rptr (cs.drop q)) fr.st .none
 | .eptr b j sz off=>k (.eptr b j sz (off+q)) fr.st .none
 | _=>none
def fieldOf (i:TI) (f:Nat):Option (Nat×Nat):=match i.kind with | .struct fs=>fs[f]? | _=>none
def pickP:List Nat→Nat→(Nat→Option α)→Option α
 | [],_,_=>none
 | o::r,n,f=>sel (Nat.beq n 0) (f o) (pickP r (n-1) f)
def idx (v:AV):Option Int:=match v with | .int _ n=>some n | .u8 b=>some b.toNat | _=>none
def doIndexAddr (i:TI) (x ix:AV) (k:Ret α):Option α :=
 match i.kind,x,idx ix with
 | .slice e true,x,some n=>match x with
  | .bs l=>chk (decide (0≤n)&&decide (n<l.length)) (k (.rptr [.u8 (l.getD n.toNat 0)]) fr.st .none)
  | .row r=>match fr.st r with
   | .rowB _ l _=>chk (decide (0≤n)&&decide (n<l.length)) (k (.eptr r n.toNat 1 0) fr.st ⟨[r],[]⟩)
   | _=>none
  | _=>none
 | .slice e false,x,some n=>match E.ty e with
  | some ei=>match x with
   | .sl z l=>chk (decide (0≤n)&&decide (n<l.length)&&Nat.beq z ei.size) (norm ei (l.getD n.toNat .undef) fun v=>k (.rptr v.cells) fr.st .none)
   | .psl b offs=>chk (decide (0≤n)&&decide (n<offs.length)&&Nat.beq ei.size 1) (pickP offs n.toNat fun o=>k (.pptr b o) fr.st .none)
   | .row r=>match fr.st r with
    | .rowL _ z l _=>chk (decide (0≤n)&&decide (n<l.length)&&Nat.beq z ei.size) (k (.eptr r n.toNat z 0) fr.st ⟨[r],[]⟩)
    | _=>none
   | _=>none
  | none=>none
 | .arr len e true,.ptr b 0,some n=>match fr.st b with
  | .barr l _=>chk (decide (0≤n)&&decide (n<l.length)&&Nat.beq l.length len&&Nat.blt 1 len) (k (.eptr b n.toNat 1 0) fr.st ⟨[b],[]⟩)
  | _=>none
 | .arr len e false,.ptr b off,some n=>match E.ty e with
  | some ei=>chk (decide (0≤n)&&decide (n<(len:Int))&&Nat.blt 1 len) (k (.ptr b (off+n.toNat*ei.size)) fr.st .none)
  | none=>none
 | .arr len e false,.rptr cs,some n=>match E.ty e with
  | some ei=>chk (decide (0≤n)&&decide (n<(len:Int))&&Nat.blt 1 len&&Nat.beq ei.size 1&&Nat.ble len cs.length) (norm ei (cs.getD n.toNat .undef) fun v=>k (.rptr [v]) fr.st .none)
  | none=>none
 | _,_,_=>none
def doIndex (i:TI) (x ix:AV) (k:Ret α):Option α :=
 match i.kind,x,idx ix with
 | .str,.str l,some n=>chk (decide (0≤n)&&decide (n<l.length)) (k (.u8 (l.getD n.toNat 0)) fr.st .none)
 | _,_,_=>none
def bound (v:Option AV) (d:Nat):Option Int:=match v with | none=>some (d:Int) | some v=>idx v
def doSlice (i:TI) (x:AV) (lo hi mx:Option AV) (k:Ret α):Option α :=
 match mx with
 | some _=>none
 | none=>match i.kind with
  | .str=>x.onStr fun l=>match bound lo 0,bound hi l.length with
   | some a,some b=>chk (decide (0≤a)&&decide (a≤b)&&decide (b≤l.length)) (k (.str ((l.take b.toNat).drop a.toNat)) fr.st .none)
   | _,_=>none
  | .slice e true=>out1 .bsl x fr.st fun v st fp=>v.onBs fun l=>match bound lo 0,bound hi l.length with
   | some a,some b=>chk (decide (0≤a)&&decide (a≤b)&&decide (b≤l.length)) (k (.bs ((l.take b.toNat).drop a.toNat)) st fp)
   | _,_=>none
  | .slice e false=>match E.ty e with
   | some ei=>out1 (.sl ei.size) x fr.st fun v st fp=>v.onSl ei.size fun l=>match bound lo 0,bound hi l.length with
    | some a,some b=>chk (decide (0≤a)&&decide (a≤b)&&decide (b≤l.length)) (k (.sl ei.size ((l.take b.toNat).drop a.toNat)) st fp)
    | _,_=>none
   | none=>none
  | .arr n e true=>match x with
   | .ptr b 0=>match fr.st b with
    | .barr l _=>match bound lo 0,bound hi l.length with
     | some a,some c=>chk (decide (0≤a)&&decide (a≤c)&&decide (c≤l.length)&&Nat.beq l.length n) (k (.bs ((l.take c.toNat).drop a.toNat)) (upd fr.st b (.barr l true)) ⟨[b],[b]⟩)
     | _,_=>none
    | _=>none
   | _=>none
  | _=>none
def doSlice3 (i:TI) (x:AV) (lo:Option AV) (hi m:AV) (k:Ret α):Option α :=
 match i.kind with
 | .slice e true=>out1 .bsl x fr.st fun v st fp=>v.onBs fun l=>match bound lo 0,idx hi,idx m with
  | some a,some b,some c=>chk (decide (0≤a)&&decide (a≤b)&&decide (b≤c)&&decide (c≤l.length)) (k (.bs ((l.take b.toNat).drop a.toNat)) st fp)
  | _,_,_=>none
 | .slice e false=>match E.ty e,lo,idx hi,idx m with
  | some _,none,some b,some c=>chk (b==0&&c==0) (match x with
   | .sl _ _=>k .nils fr.st .none
   | .nils=>k .nils fr.st .none
   | .row _=>k .nils fr.st .none
   | _=>none)
  | _,_,_,_=>none
 | _=>none
def doView (i:TI) (x:AV) (lo hi:Option AV) (k:Ret α):Option α :=
 match i.kind,x with
 | .slice _ true,.row r=>match fr.st r with
  | .rowB _ l p=>match lo,hi with
   | none,some h=>match idx h with
    | some b=>chk (decide (0≤b)&&decide (b≤l.length)&&Nat.blt 0 l.length && !p) (k (.pre r b.toNat) fr.st ⟨[r],[]⟩)
    | none=>none
   | some a,none=>match idx a with
    | some a=>chk (decide (0≤a)&&decide (a≤l.length)&&Nat.blt 0 l.length && !p) (k (.suf r a.toNat) fr.st ⟨[r],[]⟩)
    | none=>none
   | _,_=>none
  | _=>none
 | _,_=>none
def doConvert (s d:TI) (x:AV) (k:Ret α):Option α :=
 match d.kind with
 | .int kd=>match idx x with
  | some n=>k (.int kd (kd.wrap n)) fr.st .none
  | none=>none
 | .u8=>match idx x with
  | some n=>k (mkInt .u8 (IntKind.u8.wrap n)) fr.st .none
  | none=>none
 | .str=>match s.kind with
  | .str=>x.onStr fun l=>k (.str l) fr.st .none
  | .slice _ true=>bytesOf fr.st x fun l fp=>k (.str l) fr.st fp
  | _=>none
 | .slice _ true=>match s.kind with
  | .str=>x.onStr fun l=>k (.bs l) fr.st .none
  | _=>none
 | _=>none
def room (n bytes:Nat):Bool:=Nat.ble (n*bytes) 140737488355328&&Nat.ble n 140737488355328
def appB (t e:Nat) (s:AV) (new:List UInt8) (fp:FP) (k:Ret α):Option α :=
 match s with
 | .nils=>chk (room new.length 1) (k (.row t) (upd fr.st t (.rowB e new false)) ⟨t::fp.rd,[t]⟩)
 | .row r=>match fr.st r with
  | .rowB e' l p=>chk (Nat.beq e e'&&room (l.length+new.length) 1) (k (.row t) (upd (upd fr.st r .dead) t (.rowB e (l++new) p)) ⟨t::r::fp.rd,[t,r]⟩)
  | _=>none
 | _=>none
def appL (t e:Nat) (ei:TI) (s:AV) (new:List AV) (fp:FP) (k:Ret α):Option α :=
 match s with
 | .nils=>chk (Nat.blt 0 ei.size&&room new.length ei.bytes) (k (.row t) (upd fr.st t (.rowL e ei.size new false)) ⟨t::fp.rd,[t]⟩)
 | .row r=>match fr.st r with
  | .rowL e' z l p=>chk (Nat.beq e e'&&Nat.beq z ei.size&&room (l.length+new.length) ei.bytes) (k (.row t) (upd (upd fr.st r .dead) t (.rowL e ei.size (l++new) p)) ⟨t::r::fp.rd,[t,r]⟩)
  | _=>none
 | _=>none
def appS (t e:Nat) (s:AV) (r m:Nat) (k:Ret α):Option α :=
 match s with
 | .pre r' n=>match fr.st r with
  | .rowB e' l p=>chk (Nat.blt 0 l.length&&Nat.beq r r'&&Nat.beq e e' && !p&&room (n+(l.length-m)) 1) (k (.row t) (upd (upd fr.st r .dead) t (.rowB e (l.take n++l.drop m) false)) ⟨[t,r],[t,r]⟩)
  | _=>none
 | _=>none
def doAppend (t:Nat) (i:TI) (s x:AV) (k:Ret α):Option α :=
 match fr.st t with
 | .free=>match i.kind with
  | .slice e true=>match x with
   | .str l=>appB fr t e s l .none k
   | .suf r m=>appS fr t e s r m k
   | x=>bytesOf fr.st x fun new fp=>appB fr t e s new fp k
  | .slice e false=>match E.ty e with
   | none=>none
   | some ei=>elsOf ei.size fr.st x fun new fp=>appL fr t e ei s new fp k
  | _=>none
 | _=>none
def outParts (ei:TI):List (Nat×AV)→(Nat→Blk)→(List (Nat×AV)→(Nat→Blk)→FP→Option α)→Option α
 | [],st,k=>k [] st .none
 | (i,v)::r,st,k=>out ei v st fun a st1 f1=>outParts ei r st1 fun l st2 f2=>k ((i,a)::l) st2 (f1.add f2)
def allParts:Nat→List (Nat×AV)→Option (List AV)
 | _,[]=>some []
 | j,(i,v)::r=>bif Nat.beq i j then (allParts (j+1) r).map (v :: ·) else none
def headPtr:List (Nat×AV)→Option Nat
 | (_,.ptr k _)::_=>some k
 | _=>none
def offsOf (b:Nat):Nat→List (Nat×AV)→Option (List Nat)
 | _,[]=>some []
 | j,(i,.ptr k off)::r=>bif Nat.beq i j&&Nat.beq k b then (offsOf b (j+1) r).map (off :: ·) else none
 | _,_=>none
def doMake (t:Nat) (i:TI) (l c:AV) (k:Ret α):Option α :=
 match i.kind,idx l,idx c with
 | .slice e true,some n,some m=>chk (decide (0≤n)&&decide (n≤m)&&decide (m≤140737488355328)) (newBlk fr t (.rowB e (List.replicate n.toNat 0) false) (.row t) k)
 | _,_,_=>none
def doBuildOwn (d:Nat) (i:TI) (len:Nat) (parts:List (Nat×AV)) (k:Ret α):Option α :=
 match i.kind with
 | .slice e true=>match allParts 0 parts with
  | some els=>match u8s els with
   | some l=>bif Nat.beq parts.length len&&Nat.ble len 16777216&&Nat.blt 0 len then newBlk fr d (.rowB e l false) (.row d) k else none
   | none=>none
  | none=>none
 | .slice e false=>match E.ty e,allParts 0 parts with
  | some ei,some _=>bif Nat.beq parts.length len&&Nat.ble (len*ei.size) 16777216&&Nat.blt 0 ei.size&&Nat.blt 0 len then outParts ei parts fr.st fun ps st fp =>
    match allParts 0 ps with
    | some els=>bif els.all (fun x=>Nat.beq x.cells.length ei.size) then newBlk ⟨fr.slots,st⟩ d (.rowL e ei.size els false) (.row d) fun v st2 f2=>k v st2 (fp.add f2) else none
    | none=>none
   else none
  | _,_=>none
 | _=>none
def doBuildSlice (i:TI) (len:Nat) (parts:List (Nat×AV)) (k:Ret α):Option α :=
  match i.kind with
  | .slice e byte=>match len with
    | 0=>match parts,E.ty e with
      | [],some _=>k .nils fr.st .none
      | _,_=>none
    | _+1=>match headPtr parts with
     | some b=>match byte,E.ty e,offsOf b 0 parts with
      | false,some ei,some offs=>bif Nat.beq parts.length len&&Nat.beq ei.size 1&&Nat.ble len 16777216 then k (.psl b offs) fr.st .none else none
      | _,_,_=>none
     | none=>match E.ty e,allParts 0 parts with
      | some ei,some _=>bif Nat.beq parts.length len&&Nat.ble (len*ei.size) 16777216&&Nat.blt 0 ei.size then outParts ei parts fr.st fun ps st fp =>
          match allParts 0 ps with
          | some els=>match byte with
            | true=>match u8s els with
              | some l=>k (.bs l) st fp
              | none=>none
            | false=>bif els.all (fun x=>Nat.beq x.cells.length ei.size) then k (.sl ei.size els) st fp else none
          | none=>none
        else none
      | _,_=>none
  | _=>none
def argTI (ty:Nat):Option TI:=match E.ty ty with
 | some i=>match i.kind with
  | .ptr e=>E.ty e
  | .struct _=>some i
  | _=>none
 | none=>none
def outArgs:Nat→List Nat→List AV→(Nat→Blk)→(List AV→List (Nat×Nat×List AV)→(Nat→Blk)→FP→Option α)→Option α
 | _,[],[],st,k=>k [] [] st .none
 | j,ty::tys,v::vs,st,k=>match v with
  | .ptr b off=>match st b with
   | .cells cs=>match argTI E ty with
    | some ei=>bif off==0&&ei.size==cs.length then outCs ei.cts cs st fun cs' st1 f1 =>
      outArgs (j+1) tys vs st1 fun l bl st2 f2=>bif bl.any (fun x=>x.2.1==b) then none else k (.ptr j 0::l) ((j,b,cs')::bl) st2 (FP.add ⟨b::f1.rd,b::f1.wr⟩ f2)
     else none
    | none=>none
   | _=>none
  | v=>match E.ty ty with
   | some i=>outA i v st fun a st1 f1=>outArgs (j+1) tys vs st1 fun l bl st2 f2=>k (a::l) bl st2 (f1.add f2)
   | none=>none
 | _,_,_,_,_=>none
def flatTy (ty:Nat→Option TI):Nat→Nat→List Nat
 | 0,t=>[t]
 | m+1,t=>match ty t with
  | some i=>match i.kind with
   | .struct fs=>fs.flatMap fun f=>flatTy ty m f.2
   | _=>[t]
  | none=>[t]
def slIn (ty:Nat→Option TI):List Nat→Nat→Option (Nat×Nat×TI)
 | [],_=>none
 | t::r,n=>match ty t with
  | some i=>match i.kind with
   | .slice e false=>match ty e with
    | some ei=>some (n,e,ei)
    | none=>none
   | _=>slIn ty r (n+1)
  | none=>none
def slAt (ty:Nat→Option TI) (fs:List (Nat×Nat)):Option (Nat×Nat×TI):=slIn ty (fs.flatMap fun f=>flatTy ty 5 f.2) 0
def normO (t:Nat):Nat→List CT→List AV→(List AV→List AV→Option α)→Option α
 | 0,_::cts,v,k=>onCons v fun x r=>x.onOwnL fun l=>normCs cts r fun r'=>k (.row t::r') l
 | j+1,c::cts,v,k=>onCons v fun x r=>norm1 c x fun x'=>normO t j cts r fun r' l=>k (x'::r') l
 | _,[],_,_=>none
def inStr (fs:List (Nat×Nat)) (t:Nat) (i:TI) (v:AV) (st:Nat→Blk) (k:AV→(Nat→Blk)→FP→Option α):Option α :=
 match slAt E.ty fs with
 | some (j,e,ei)=>match st t with
  | .free=>v.onAgg fun cs=>normO t j i.cts cs fun cs' l=>k (.agg cs') (upd st t (.rowL e ei.size l false)) ⟨[t],[t]⟩
  | _=>none
 | none=>norm i v fun v'=>k v' st .none
def inRes (own:Bool) (t:Nat) (i:TI) (v:AV) (st:Nat→Blk) (k:AV→(Nat→Blk)→FP→Option α):Option α :=
 match own,i.kind with
 | true,.slice e true=>match st t with
  | .free=>v.onOwnB fun l=>k (.row t) (upd st t (.rowB e l false)) ⟨[t],[t]⟩
  | _=>none
 | true,.slice e false=>match st t,E.ty e with
  | .free,some ei=>v.onOwnL fun l=>k (.row t) (upd st t (.rowL e ei.size l false)) ⟨[t],[t]⟩
  | _,_=>none
 | true,.struct fs=>inStr E fs t i v st k
 | _,_=>norm i v fun v'=>k v' st .none
def inTup (own:Bool) (t:Nat):List Nat→List AV→(Nat→Blk)→(List AV→(Nat→Blk)→FP→Option α)→Option α
 | [],l,st,k=>onNil l (k [] st .none)
 | ty::tys,l,st,k=>match E.ty ty with
  | some i=>onCons l fun v r=>inRes E own t i v st fun a st1 f1=>inTup false (t+4096) tys r st1 fun l' st2 f2=>k (a::l') st2 (f1.add f2)
  | none=>none
def normLike (o v:AV) (k:AV→Option α):Option α :=
 match o with
 | .int kd _=>v.onInt kd fun n=>k (.int kd n)
 | .u8 _=>v.onU8 fun b=>k (.u8 b)
 | .bool _=>v.onBool fun b=>k (.bool b)
 | .str _=>v.onStr fun b=>k (.str b)
 | .bs _=>v.onBs fun b=>k (.bs b)
 | .sl z _=>v.onSl z fun b=>k (.sl z b)
 | _=>k v
def normLikes:List AV→List AV→(List AV→Option α)→Option α
 | [],l,k=>onNil l (k [])
 | o::os,l,k=>onCons l fun x r=>normLike o x fun x'=>normLikes os r fun r'=>k (x'::r')
def inBlks:List (Nat×Nat×List AV)→Blocks→(Nat→Blk)→((Nat→Blk)→Option α)→Option α
 | [],bs,st,k=>onNilB bs (k st)
 | (_,b,old)::r,bs,st,k=>onConsB bs fun cs bs'=>normLikes old cs fun cs'=>inBlks r bs' (upd st b (.cells cs')) k
end step
def doCall {α:Type} (E:Env) (fr:Fr) (rts:Nat→Option (List Nat)) (t:Nat) (f:Nat) (argTys:List Nat) (args:List AV) (k:Ret α):Option α :=
 match rts f with
 | none=>none
 | some rt=>outArgs E 0 argTys args fr.st fun as bl st fp =>
  (E.call f as (bl.map fun x=>(x.1,x.2.2))).bind fun r=>inBlks bl r.2 st fun st1 =>
   match rt with
   | [ty]=>match E.ty ty with
    | some i=>inRes E (E.own f) t i r.1 st1 fun v st2 f2=>k v st2 (fp.add f2)
    | none=>none
   | rt=>r.1.onTup fun vs=>inTup E (E.own f) t rt vs st1 fun l st2 f2=>k (.tup l) st2 (fp.add f2)
end Go.Abs
