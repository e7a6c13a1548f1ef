/- The abstract interpreter: operations dispatched, regions, code, calls. -/
import Derived.Test.YtmipfdjcnkljnaaAbsDefs
open Nat renaming beq→Zz
namespace Go.Abs
set_option linter.unusedVariables false
def loopN {σ ρ:Type} (step:σ→Option (σ ⊕ ρ)):Nat→σ→Option ρ
 | 0,_=>none
 | n+1,s=>match step s with
  | some (.inl s')=>loopN step n s'
  | some (.inr r)=>some r
  | none=>none
open Classical in
noncomputable def loopM {σ ρ:Type} (step:σ→Option (σ ⊕ ρ)) (s:σ):Option ρ :=
 if h:∃ n r,loopN step n s=some r then some (Classical.choose (Classical.choose_spec h)) else none
section
variable {α:Type} (E:Env) (rts:Nat→Option (List Nat))
def doLen (fr:Fr) (i:TI) (v:AV) (k:Ret α):Option α :=
 match i.kind with
 | .str=>v.onStr fun l=>k (.int .i64 l.length) fr.st .none
 | .slice _ _=>lenOf fr.st v fun n fp=>k (.int .i64 n) fr.st fp
 | _=>none
def doBinT (i:TI) (op:BinOp) (a b:AV):Option AV :=
 match a with
 | .agg cs=>match i.eqc with
  | []=>none
  | c::r=>bif ctMatch (c::r) cs&&isAggK i.kind then doBin op a b else none
 | .bool _=>match i.kind with
  | .bool=>doBin op a b
  | _=>none
 | .undef=>none
 | .tup _=>none
 | a=>doBin op a b
def doBinTC (i:TI) (op:BinOp) (a b:AV):Option (Bool×AV) :=
 match a with
 | .agg cs=>match i.eqc with
  | []=>none
  | c::r=>bif ctMatch (c::r) cs&&isAggK i.kind then doBinC op a b else none
 | .bool _=>match i.kind with
  | .bool=>doBinC op a b
  | _=>none
 | .undef=>none
 | .tup _=>none
 | a=>doBinC op a b
def doBuild (i:TI) (fr:Fr) (parts:List (Nat×AV)) (k:Ret α):Option α :=
 match i.kind with
 | .struct fs=>match fill (fun j=>(fs[j]?).bind fun f=>(E.ty f.2).map fun fi=>(f.1,fi.size)) parts i.zero with
  | some cs=>k (.agg cs) fr.st .none
  | none=>none
 | _=>none
def viewOf (d:Option Nat):Bool :=
 match d with
 | some t=>match E.keep (1000000+t) with
  | []=>false
  | _::_=>true
 | none=>false
def doOp (fr:Fr) (o:Oper) (k:Ret α):Option α :=
 match o.op with
 | .move x=>(evalO E fr x).bind fun v=>k v fr.st .none
 | .assign x=>(evalO E fr x).bind fun v=>k v fr.st .none
 | .pick c a b=>(evalO E fr c).bind fun v=>v.onBool fun t=>sel t ((evalO E fr a).bind fun v=>k v fr.st .none) ((evalO E fr b).bind fun v=>k v fr.st .none)
 | .alloc e=>(E.ty e).bind fun i=>match o.dst with
  | some t=>match i.kind with
   | .arr _ _ true=>(u8s i.zero).bind fun l=>newBlk fr (E.kb+t) (.barr l false) (.ptr (E.kb+t) 0) k
   | _=>newBlk fr (E.kb+t) (.cells i.zero) (.ptr (E.kb+t) 0) k
  | none=>none
 | .box e x=>(E.ty e).bind fun i=>(evalO E fr x).bind fun v=>match o.dst with
  | some t=>bif v.cells.length==i.size&&v.cells.all AV.isCell then newBlk fr (E.kb+t) (.cells v.cells) (.ptr (E.kb+t) 0) k else none
  | none=>none
 | .build t parts=>(E.ty t).bind fun i=>(evalParts E fr parts.toList).bind fun ps=>doBuild E i fr ps k
 | .buildSlice t len parts=>(E.ty t).bind fun i=>(evalParts E fr parts.toList).bind fun ps=>match viewOf E o.dst,o.dst with
  | true,some d=>doBuildOwn E fr (E.kb+d) i len ps k
  | _,_=>doBuildSlice E fr i len ps k
 | .makeSlice t l c=>(E.ty t).bind fun i=>(evalO E fr l).bind fun n=>(evalO E fr c).bind fun m=>match o.dst with
  | some d=>doMake fr (E.kb+d) i n m k
  | none=>none
 | .load t a=>(E.ty t).bind fun i=>(evalO E fr a).bind fun v=>doLoad E fr i v k
 | .store t a x=>(E.ty t).bind fun i=>(evalO E fr a).bind fun p=>(evalO E fr x).bind fun v=>doStore E fr i p v k
 | .nilCheck x=>(evalO E fr x).bind fun v=>match v with
  | .ptr a b=>k (.ptr a b) fr.st .none
  | .rptr l=>k (.rptr l) fr.st .none
  | .eptr a b c d=>k (.eptr a b c d) fr.st .none
  | _=>none
 | .binOp op t x y _=>(E.ty t).bind fun i=>(evalO E fr x).bind fun a=>(evalO E fr y).bind fun b=>(doBinTC i op a b).bind fun x=>chk x.1 (k x.2 fr.st .none)
 | .unOp op _ x=>(evalO E fr x).bind fun a=>(doUn op a).bind fun v=>k v fr.st .none
 | .convert s d x=>(E.ty s).bind fun si=>(E.ty d).bind fun di=>(evalO E fr x).bind fun v=>doConvert fr si di v k
 | .slice t x lo hi mx=>(E.ty t).bind fun i=>(evalO E fr x).bind fun v =>
   match lo.map (evalO E fr),hi.map (evalO E fr),mx.map (evalO E fr) with
   | some none,_,_=>none
   | _,some none,_=>none
   | _,_,some none=>none
   | a,some (some b),some (some m)=>doSlice3 E fr i v (a.bind id) b m k
   | _,none,some (some _)=>none
   | a,b,none=>match viewOf E o.dst with
    | true=>doView fr i v (a.bind id) (b.bind id) k
    | false=>doSlice E fr i v (a.bind id) (b.bind id) none k
 | .fieldAddr t x f=>(E.ty t).bind fun i=>(fieldOf i f).bind fun p=>(evalO E fr x).bind fun v=>doFieldAddr fr p.1 v k
 | .field t x f=>(E.ty t).bind fun i=>(fieldOf i f).bind fun p=>(E.ty p.2).bind fun fi=>(evalO E fr x).bind fun v=>v.onAgg fun cs=>loadCells fi (cs.drop p.1) fun v=>k v fr.st .none
 | .indexAddr t x ix=>(E.ty t).bind fun i=>(evalO E fr x).bind fun v=>(evalO E fr ix).bind fun n=>doIndexAddr E fr i v n k
 | .index t x ix=>(E.ty t).bind fun i=>(evalO E fr x).bind fun v=>(evalO E fr ix).bind fun n=>doIndex fr i v n k
 | .makeFunc fn fs cs=>match fn with
  | .func f=>(evalAll E fr fs.toList).bind fun a=>(evalAll E fr cs.toList).bind fun b=>(ptrs a).bind fun pa=>(ptrs b).bind fun pb=>k (.clo f pa pb) fr.st .none
  | _=>none
 | .extract x j=>(evalO E fr x).bind fun v=>v.onTup fun vs=>match vs[j]? with
  | some v=>k v fr.st .none
  | none=>none
 | .call c=>match c.callee with
  | .builtin .len=>(evalAll E fr c.args.toList).bind fun vs=>match vs,c.argTypes.toList with
   | [v],[ty]=>(E.ty ty).bind fun i=>doLen fr i v k
   | _,_=>none
  | .builtin .append=>(evalAll E fr c.args.toList).bind fun vs=>match vs,c.argTypes.toList,o.dst with
   | [s,x],[ty,tx],some t=>(E.ty ty).bind fun i=>(E.ty tx).bind fun xi=>match xi.kind with
    | .slice _ _=>doAppend E fr (E.kb+t) i s x k
    | .str=>doAppend E fr (E.kb+t) i s x k
    | _=>none
   | _,_,_=>none
  | .builtin .min=>(evalAll E fr c.args.toList).bind fun vs=>(mmAll false vs).bind fun v=>k v fr.st .none
  | .builtin .max=>(evalAll E fr c.args.toList).bind fun vs=>(mmAll true vs).bind fun v=>k v fr.st .none
  | .value (.func f)=>(evalAll E fr c.args.toList).bind fun vs=>match o.dst with
   | some t=>match E.inl f with
    | some run=>run.run α ((E.kb+t+1)*100000) vs fr.st k
    | none=>doCall E fr rts (E.kb+t) f c.argTypes.toList vs k
   | none=>none
  | .value (.tmp s)=>(evalO E fr (.tmp s)).bind fun v=>v.onClo fun f fs cs=>(evalAll E fr c.args.toList).bind fun vs=>match o.dst with
   | some t=>match E.inl f with
    | some run=>run.run α ((E.kb+t+1)*100000) (ofPtrs fs++vs++ofPtrs cs) fr.st k
    | none=>match fs,cs with
     | [],[]=>doCall E fr rts (E.kb+t) f c.argTypes.toList vs k
     | _,_=>none
   | none=>none
  | _=>none
 | _=>none
def putSlot (fr:Fr) (n:Nat) (d:Option Nat) (v:AV) (st:Nat→Blk) (k:Fr→Option α):Option α :=
 match d with
 | some t=>bif Nat.blt t n then k ⟨upd fr.slots t v,st⟩ else none
 | none=>k ⟨fr.slots,st⟩
def guardSlot (ops:List Oper) (j:Nat):Option Nat:=(ops[j]?).bind (·.dst)
def execOps (n:Nat) (all:List Oper):List Oper→Fr→(Fr→List FP→Option α)→Option α
 | [],fr,k=>k fr []
 | o::os,fr,k =>
  match o.guard with
  | none=>doOp E rts fr o fun v st fp=>putSlot fr n o.dst v st fun fr'=>execOps n all os fr' fun fr2 fps=>k fr2 (fp::fps)
  | some (j,want)=>match guardSlot all j with
   | none=>none
   | some g=>(fr.slots g).onGuard (fun b =>
    sel b
     (match want with
      | true=>doOp E rts ⟨upd fr.slots g (.bool true),fr.st⟩ o fun v st fp=>putSlot ⟨upd fr.slots g (.bool true),fr.st⟩ n o.dst v st fun fr'=>execOps n all os fr' fun fr2 fps=>k fr2 (fp::fps)
      | false=>putSlot ⟨upd fr.slots g (.bool true),fr.st⟩ n o.dst (.tup []) fr.st fun fr'=>execOps n all os fr' fun fr2 fps=>k fr2 (.none::fps))
     (match want with
      | false=>doOp E rts ⟨upd fr.slots g (.bool false),fr.st⟩ o fun v st fp=>putSlot ⟨upd fr.slots g (.bool false),fr.st⟩ n o.dst v st fun fr'=>execOps n all os fr' fun fr2 fps=>k fr2 (fp::fps)
      | true=>putSlot ⟨upd fr.slots g (.bool false),fr.st⟩ n o.dst (.tup []) fr.st fun fr'=>execOps n all os fr' fun fr2 fps=>k fr2 (.none::fps)))
    (putSlot fr n o.dst (.tup []) fr.st fun fr'=>execOps n all os fr' fun fr2 fps=>k fr2 (.none::fps))
def ins (l:List Nat) (i:Nat):List Nat:=bif l.contains i then l else i::l
def befores (ops:List Oper):List (List Nat) :=
 ops.foldl (fun acc o=>acc++[o.after.toList.foldl (fun l e=>if Region.binds .any e then ins (((acc[e.on]?).getD []).foldl ins l) e.on else l) []]) []
def FP.apart (a b:FP):Bool:=a.wr.all (fun x => !b.rd.contains x && !b.wr.contains x)&&b.wr.all (fun x => !a.rd.contains x)
def slotsOf (o:Oper):List Nat:=o.op.operands.toList.filterMap fun | .tmp t=>some t | _=>none
def looks (ops:List Oper) (o:Oper):List Nat :=
 slotsOf o++(match o.guard with | some (g,_)=>(guardSlot ops g).toList | none=>[])
def apartS (ops:List Oper) (x y:Oper):Bool :=
 (match x.dst with | some d => !(looks ops y).contains d&&y.dst != some d | none=>true) &&
 (match y.dst with | some d => !(looks ops x).contains d | none=>true)
def indepFrom (ops:List Oper) (bs:List (List Nat)) (fps:List FP) (j:Nat) (oj:Oper) (fj:FP):Bool :=
 (List.range j).all fun i=>((bs[j]?).getD []).contains i||(match ops[i]?,fps[i]? with
  | some oi,some fi=>apartS ops oi oj&&fi.apart fj
  | _,_=>false)
def backs (ops:List Oper):Bool:=(List.range ops.length).all fun j=>match ops[j]? with
 | some o=>o.after.toList.all fun e => !Region.binds .any e||Nat.blt e.on j
 | none=>false
def indep (ops:List Oper) (fps:List FP):Bool :=
 let bs:=befores ops
 backs ops&&(List.range ops.length).all fun j=>match ops[j]?,fps[j]? with
  | some oj,some fj=>indepFrom ops bs fps j oj fj
  | _,_=>false
inductive Ex where
 | normal | ret | exit (id:Nat)
def Ex.seqK {ρ:Type} (e:Ex) (a:ρ) (k:Ex→ρ):ρ:=match e with | .normal=>a | .ret=>k .ret | .exit j=>k (.exit j)
def Ex.blockK {ρ:Type} (id:Nat) (e:Ex) (k:Ex→ρ):ρ:=match e with | .normal=>k .normal | .ret=>k .ret | .exit j=>bif Zz j id then k .normal else k (.exit j)
def Ex.joinK {ρ:Type} (e:Ex) (a:Option ρ):Option ρ:=match e with | .normal=>a | .ret=>none | .exit _=>none
def Ex.endK {ρ:Type} (e:Ex) (a b:ρ):ρ:=match e with | .normal=>a | .ret=>a | .exit _=>b
def Ex.loopK {σ:Type} (e:Ex) (s:σ):σ ⊕ (Ex×σ):=match e with | .normal => .inl s | .ret => .inr (.ret,s) | .exit j => .inr (.exit j,s)
def outs:Code→List Nat
 | .seq a b=>outs a++outs b
 | .cond _ a b=>outs a++outs b
 | .block id a=>(outs a).filter fun j => !Zz j id
 | .loop a=>outs a
 | .exit id=>[id]
 | _=>[]
def exK {ρ:Type} (e:Ex) (a:Option ρ) (f:Nat→Option ρ):Option ρ:=match e with | .normal=>none | .ret=>a | .exit j=>f j
def pickOut {ρ:Type}:List Nat→Nat→(Ex→Option ρ)→Option ρ
 | [],_,_=>none
 | i::is,j,k=>sel (Zz j i) (k (.exit i)) (pickOut is j k)
def Ex.out {ρ:Type} (ids:List Nat) (e:Ex) (k:Ex→Option ρ):Option ρ:=exK e (k .ret) fun j=>pickOut ids j k
theorem Ex.out_inv {ρ:Type} {ids:List Nat} {e:Ex} {k:Ex→Option ρ} {r:ρ} (h:Ex.out ids e k=some r):k e=some r:=by
 unfold Ex.out exK at h
 cases e with
 | normal=>cases h
 | ret=>exact h
 | exit j =>
  simp only at h
  induction ids with
  | nil=>cases h
  | cons i is ih =>
   simp only [pickOut,sel] at h
   cases hb:Zz j i with
   | false=>rw [hb] at h;exact ih h
   | true=>rw [hb] at h;rw [Nat.eq_of_beq_eq_true hb];exact h
def firstRegion:Code→Nat
 | .region id _ _=>id
 | .seq a _=>firstRegion a
 | .block _ a=>firstRegion a
 | .loop a=>firstRegion a
 | .scope a=>firstRegion a
 | _=>0
def ownCell (st:Nat→Blk) (L:List Nat) (e z:Nat) (byte:Bool) (v:AV) (k:AV→List Nat→Option α):Option α :=
 match byte with
 | true=>match v with
  | .nils=>k (.ownB []) L
  | .row r=>match st r with
   | .rowB e' l false=>chk (Zz e e' && !L.contains r) (k (.ownB l) (r::L))
   | _=>none
  | _=>none
 | false=>match v with
  | .nils=>chk (Nat.blt 0 z) (k (.ownL []) L)
  | .row r=>match st r with
   | .rowL e' z' l false=>chk (Zz e e'&&Zz z z' && !L.contains r) (k (.ownL l) (r::L))
   | _=>none
  | _=>none
def collectCs:List KC→List AV→(Nat→Blk)→List Nat→(List AV→(Nat→Blk)→List Nat→Option α)→Option α
 | [],[],st,L,k=>k [] st L
 | .imm c::cs,v::vs,st,L,k=>out1 c v st fun a st1 fp=>chk (fp.wr.all fun x => !L.contains x) (collectCs cs vs st1 L fun l st2 L2=>k (a::l) st2 L2)
 | .own _ e z b::cs,v::vs,st,L,k=>ownCell st L e z b v fun a L1=>collectCs cs vs st L1 fun l st2 L2=>k (a::l) st2 L2
 | _,_,_,_,_=>none
def collect1 (sl:Nat→AV) (st:Nat→Blk) (L:List Nat) (h:Keep) (k:List AV→(Nat→Blk)→List Nat→Option α):Option α :=
 match h with
 | .val s ty=>(E.ty ty).bind fun i=>out i (sl s) st fun v st1 fp=>chk (fp.wr.all fun x => !L.contains x) (match isAggK i.kind with
  | true=>k v.cells st1 L
  | false=>k [v] st1 L)
 | .rowB s e p=>match sl s with
  | .nils=>k [.ownB []] st L
  | .row r=>match st r with
   | .rowB e' l q=>chk (Zz e e'&&(p || !q) && !L.contains r) (k [.ownB l] st (r::L))
   | _=>none
  | _=>none
 | .rowL s e z p=>match sl s with
  | .nils=>chk (Nat.blt 0 z) (k [.ownL []] st L)
  | .row r=>match st r with
   | .rowL e' z' l q=>chk (Zz e e'&&Zz z z'&&(p || !q) && !L.contains r) (k [.ownL l] st (r::L))
   | _=>none
  | _=>none
 | .ptr s b off=>match sl s with
  | .ptr b' off'=>chk (Zz b b'&&Zz off off') (k [] st L)
  | _=>none
 | .psl s b offs=>match sl s with
  | .psl b' offs'=>chk (Zz b b'&&offs==offs') (k [] st L)
  | _=>none
 | .cells b cts=>match st b with
  | .cells cs=>outCs cts cs st fun l st1 fp=>chk ((fp.wr.all fun x => !L.contains x) && !L.contains b) (k l st1 (b::L))
  | _=>none
 | .barr b p=>match st b with
  | .barr l q=>chk ((p || !q) && !L.contains b) (k [.bs l] st (b::L))
  | _=>none
 | .cellsR b kcs=>match st b with
  | .cells cs=>collectCs kcs cs st L fun l st1 L1=>chk (!L1.contains b) (k l st1 (b::L1))
  | _=>none
def collectL (sl:Nat→AV):List Keep→(Nat→Blk)→List Nat→(List AV→Option α)→Option α
 | [],_,_,k=>k []
 | h::hs,st,L,k=>collect1 E sl st L h fun l st1 L1=>collectL sl hs st1 L1 fun r=>k (l++r)
def collect (fr:Fr) (hs:List Keep) (k:List AV→Option α):Option α:=collectL E fr.slots hs fr.st [] k
def takeCs:List CT→List AV→(List AV→List AV→Option α)→Option α
 | [],l,k=>k [] l
 | c::cs,l,k=>onCons l fun x r=>norm1 c x fun x'=>takeCs cs r fun a b=>k (x'::a) b
def fresh (st:Nat→Blk) (b:Nat) (k:Option α):Option α:=match st b with
 | .free=>k
 | _=>none
def freshB (st:Nat→Blk) (b:Nat) (k:Option α):Option α:=match st b with
 | .free=>k
 | .dead=>k
 | _=>none
def restoreCs:List KC→List AV→Fr→(List AV→List AV→Fr→Option α)→Option α
 | [],l,fr,k=>k [] l fr
 | .imm c::cs,l,fr,k=>onCons l fun x r=>norm1 c x fun x'=>restoreCs cs r fr fun a b fr2=>k (x'::a) b fr2
 | .own t e z b::cs,l,fr,k=>onCons l fun x r=>match b with
  | true=>x.onOwnB fun y=>fresh fr.st t (restoreCs cs r ⟨fr.slots,upd fr.st t (.rowB e y false)⟩ fun a b fr2=>k (.row t::a) b fr2)
  | false=>x.onOwnL fun y=>fresh fr.st t (restoreCs cs r ⟨fr.slots,upd fr.st t (.rowL e z y false)⟩ fun a b fr2=>k (.row t::a) b fr2)
def restore:List Keep→List AV→Fr→(Fr→Option α)→Option α
 | [],l,fr,k=>onNil l (k fr)
 | h::hs,l,fr,k =>
  match h with
  | .val s ty=>(E.ty ty).bind fun i=>match isAggK i.kind with
   | true=>takeCs i.cts l fun cs r=>restore hs r ⟨upd fr.slots s (.agg cs),fr.st⟩ k
   | false=>match i.cts with
    | [c]=>onCons l fun x r=>norm1 c x fun x'=>restore hs r ⟨upd fr.slots s x',fr.st⟩ k
    | _=>none
  | .rowB s e p=>onCons l fun x r=>x.onOwnB fun b=>fresh fr.st (8192+s) (restore hs r ⟨upd fr.slots s (.row (8192+s)),upd fr.st (8192+s) (.rowB e b p)⟩ k)
  | .rowL s e z p=>onCons l fun x r=>x.onOwnL fun b=>fresh fr.st (8192+s) (restore hs r ⟨upd fr.slots s (.row (8192+s)),upd fr.st (8192+s) (.rowL e z b p)⟩ k)
  | .ptr s b off=>match fr.st b with
   | .cells _=>restore hs l ⟨upd fr.slots s (.ptr b off),fr.st⟩ k
   | .barr _ _=>restore hs l ⟨upd fr.slots s (.ptr b off),fr.st⟩ k
   | _=>none
  | .psl s b offs=>match fr.st b with
   | .cells _=>restore hs l ⟨upd fr.slots s (.psl b offs),fr.st⟩ k
   | _=>none
  | .cells b cts=>takeCs cts l fun cs r=>freshB fr.st b (restore hs r ⟨fr.slots,upd fr.st b (.cells cs)⟩ k)
  | .barr b p=>onCons l fun x r=>x.onBs fun c=>freshB fr.st b (restore hs r ⟨fr.slots,upd fr.st b (.barr c p)⟩ k)
  | .cellsR b kcs=>restoreCs kcs l fr fun cs r fr2=>freshB fr2.st b (restore hs r ⟨fr2.slots,upd fr2.st b (.cells cs)⟩ k)
def baseFr:Fr:=⟨fun _ => .undef,fun k=>bif E.hand.contains k then .dead else .free⟩
end
noncomputable def exec (E:Env) (rts:Nat→Option (List Nat)) (n:Nat):Code→(α:Type)→Fr→(Ex→Fr→Option α)→Option α
 | .skip,_,fr,k=>k .normal fr
 | .label _,_,fr,k=>k .normal fr
 | .region id ops draw,_,fr,k=>match E.keep (2000000+id) with
  | []=>execOps E rts n ops.toList ops.toList fr fun fr' fps=>chk (!draw||indep ops.toList fps) (k .normal fr')
  | h::hs=>(execOps E rts n ops.toList ops.toList fr fun fr' fps=>chk (!draw||indep ops.toList fps) (collect E fr' (h::hs) some)).bind fun l=>restore E (h::hs) l (baseFr E) fun fr'=>k .normal fr'
 | .seq a b,α,fr,k=>exec E rts n a α fr fun e fr'=>e.seqK (exec E rts n b α fr' k) fun e=>k e fr'
 | .cond c a b,α,fr,k=>match E.keep (3000000+firstRegion a) with
  | []=>(evalO E fr c).bind fun v=>v.onBool fun t=>sel t (exec E rts n a α fr k) (exec E rts n b α fr k)
  | h::hs=>((evalO E fr c).bind fun v=>v.onBool fun t=>sel t (exec E rts n a (List AV) fr fun e fr'=>e.joinK (collect E fr' (h::hs) some)) (exec E rts n b (List AV) fr fun e fr'=>e.joinK (collect E fr' (h::hs) some))).bind fun l=>restore E (h::hs) l (baseFr E) fun fr'=>k .normal fr'
 | .block id a,α,fr,k=>exec E rts n a α fr fun e fr'=>e.blockK id fun e=>k e fr'
 | .loop a,_,fr,k =>
  collect E fr (E.keep (firstRegion a)) fun st0 =>
   (loopM (fun st=>restore E (E.keep (firstRegion a)) st (baseFr E) fun fr0=>exec E rts n a (List AV ⊕ (Ex×List AV)) fr0 fun e fr' =>
     collect E fr' (E.keep (firstRegion a)) fun st'=>some (e.loopK st')) st0).bind fun r=>restore E (E.keep (firstRegion a)) r.2 (baseFr E) fun fr'=>Ex.out (outs a) r.1 fun e=>k e fr'
 | .exit id,_,fr,k=>k (.exit id) fr
 | .ret,_,fr,k=>k .ret fr
 | _,_,_,_=>none
def entry:Nat→List AV→List (Nat×List AV)→Fr
 | _,args,blks=>⟨fun i=>(args[i]?).getD .undef,fun b=>match blks.find? (fun x=>Zz x.1 b) with | some x => .cells x.2 | none => .free⟩
section
variable {α:Type} (E:Env)
def finStr (fs:List (Nat×Nat)) (i:TI) (st:Nat→Blk) (L:List Nat) (v:AV) (k:AV→(Nat→Blk)→List Nat→Option α):Option α :=
 match slAt E.ty fs with
 | some (j,e,ei)=>match v with
  | .agg cs=>match cs[j]? with
   | some (.row r)=>match st r with
    | .rowL e' z l false=>chk (Zz e e'&&Zz z ei.size && !L.contains r) (outCs (i.cts.set j .bool) (cs.set j (.bool false)) st fun a st1 fp=>chk (fp.wr.all fun x => !(r::L).contains x) (k (.agg (a.set j (.ownL l))) st1 (r::L)))
    | _=>none
   | _=>none
  | _=>none
 | none=>out i v st fun a st1 fp=>chk (fp.wr.all fun x => !L.contains x) (k a st1 L)
def resFin (i:TI) (st:Nat→Blk) (L:List Nat) (own:Bool) (v:AV) (k:AV→(Nat→Blk)→List Nat→Option α):Option α :=
 match own with
 | false=>out i v st fun a st1 fp=>chk (fp.wr.all fun x => !L.contains x) (k a st1 L)
 | true=>match i.kind with
  | .slice e true=>match v with
   | .nils=>k (.ownB []) st L
   | .row r=>match st r with
    | .rowB e' l false=>chk (Zz e e' && !L.contains r) (k (.ownB l) st (r::L))
    | _=>none
   | _=>none
  | .slice e false=>match E.ty e with
   | none=>none
   | some ei=>match v with
    | .nils=>chk (Nat.blt 0 ei.size) (k (.ownL []) st L)
    | .row r=>match st r with
     | .rowL e' z l false=>chk (Zz e e'&&Zz z ei.size && !L.contains r) (k (.ownL l) st (r::L))
     | _=>none
    | _=>none
  | .struct fs=>finStr E fs i st L v k
  | _=>out i v st fun a st1 fp=>chk (fp.wr.all fun x => !L.contains x) (k a st1 L)
def resVal (sl:Nat→AV) (st:Nat→Blk) (L:List Nat) (r:ResultVar) (ty:Nat) (own:Bool) (k:AV→(Nat→Blk)→List Nat→Option α):Option α :=
 (E.ty ty).bind fun i=>match r with
  | .tmp t=>resFin E i st L own (sl t) k
  | .cell a t=>(E.ty t).bind fun ti=>doLoad E ⟨sl,st⟩ ti (sl a) fun v _ _=>resFin E i st L own v k
def resAll (sl:Nat→AV):List ResultVar→List Nat→(Nat→Blk)→List Nat→Bool→(List AV→(Nat→Blk)→List Nat→Option α)→Option α
 | [],[],st,L,_,k=>k [] st L
 | r::rs,ty::tys,st,L,own,k=>resVal E sl st L r ty own fun v st1 L1=>resAll sl rs tys st1 L1 false fun l st2 L2=>k (v::l) st2 L2
 | _,_,_,_,_,_=>none
def outBlks:List (Nat×List AV)→List Nat→(Nat→Blk)→List Nat→(Blocks→Option α)→Option α
 | [],_,_,_,k=>k []
 | (b,_)::r,tys,st,L,k=>match st b,(tys[b]?).bind E.ty with
  | .cells cs,some { kind := .ptr e,.. }=>(E.ty e).bind fun ei=>outCs ei.cts cs st fun l st1 fp=>chk (fp.wr.all fun x => !L.contains x) (outBlks r tys st1 L fun bs=>k (l::bs))
  | _,_=>none
end
noncomputable def runFnH (E:Env) (rts:Nat→Option (List Nat)) (own:Bool) (fn:Func) (args:List AV) (blks:List (Nat×List AV)) (hand:List Nat):Option (AV×Blocks) :=
 match fn.body with
 | none=>none
 | some c=>chk (Nat.ble args.length fn.ntmps) (exec { E with hand:=hand } rts fn.ntmps c (AV×Blocks) (entry 0 args blks) fun e fr=>e.endK (resAll E fr.slots fn.results.toList fn.resultTypes.toList fr.st [] own fun vs st L=>outBlks E blks fn.params.toList st L fun bs =>
   match vs with
   | [v]=>some (v,bs)
   | vs=>some (.tup vs,bs)) none)
noncomputable def runFn (E:Env) (rts:Nat→Option (List Nat)) (own:Bool) (fn:Func) (args:List AV) (blks:List (Nat×List AV)):Option (AV×Blocks):=runFnH E rts own fn args blks (blks.map (·.1))
end Go.Abs
