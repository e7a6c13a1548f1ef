/- What follows from an eliminator's having a result. -/
import Derived.Test.YtmipfdjcnkljnaaAbsExec
import Derived.Below
import Derived.Deep.AppendSrc
import Derived.Deep.LoopGhost
open Nat renaming lt_of_lt_of_le→Zz,eq_of_beq_eq_true→Zy
namespace Go.Abs
set_option linter.unusedVariables false
theorem norm1_inv {α:Type} {c:CT} {v:AV} {k:AV→Option α} {r:α} (h:norm1 c v k=some r):k v=some r:=by
 unfold norm1 at h
 split at h
 ·rename_i kd
  unfold AV.onInt at h
  split at h
  ·rename_i _ k' n
   cases he:(k'==kd) with
   | false=>rw [he] at h;cases h
   | true =>
    have:k'=kd:=by simpa using he
    subst this
    rw [he] at h;exact h
  ·cases h
 ·unfold AV.onU8 at h;split at h<;>first | exact h | cases h
 ·unfold AV.onBool at h;split at h<;>first | exact h | cases h
 ·unfold AV.onStr at h;split at h<;>first | exact h | cases h
 ·unfold AV.onBs at h;split at h<;>first | exact h | cases h
 ·rename_i z
  unfold AV.onSl at h
  split at h
  ·rename_i _ z' l
   cases he:Nat.beq z' z with
   | false=>rw [he] at h;cases h
   | true =>
    have:=Zy he
    subst this
    rw [he] at h;exact h
  ·cases h
 ·cases h
theorem onCons_inv {α:Type} {l:List AV} {f:AV→List AV→Option α} {r:α} (h:onCons l f=some r):∃ x t,l=x::t∧f x t=some r:=by
 unfold onCons at h
 split at h
 ·exact ⟨_,_,rfl,h⟩
 ·cases h
theorem onNil_inv {α:Type} {l:List AV} {f:Option α} {r:α} (h:onNil l f=some r):l=[]∧f=some r:=by
 unfold onNil at h
 split at h
 ·exact ⟨rfl,h⟩
 ·cases h
theorem normCs_inv {α:Type}:∀ {cs:List CT} {l:List AV} {k:List AV→Option α} {r:α},normCs cs l k=some r→k l=some r
 | [],l,k,r,h=>by obtain ⟨rfl,h⟩:=onNil_inv h;exact h
 | c::cs,l,k,r,h=>by
  simp only [normCs] at h
  obtain ⟨x,t,rfl,h1⟩:=onCons_inv h
  exact normCs_inv (k:=fun r'=>k (x::r')) (norm1_inv h1)
theorem onAgg_inv {α:Type} {v:AV} {f:List AV→Option α} {r:α} (h:v.onAgg f=some r):∃ l,v = .agg l∧f l=some r:=by
 unfold AV.onAgg at h;split at h
 ·exact ⟨_,rfl,h⟩
 ·cases h
theorem onTup_inv {α:Type} {v:AV} {f:List AV→Option α} {r:α} (h:v.onTup f=some r):∃ l,v = .tup l∧f l=some r:=by
 unfold AV.onTup at h;split at h
 ·exact ⟨_,rfl,h⟩
 ·cases h
theorem onStr_inv {α:Type} {v:AV} {f:List UInt8→Option α} {r:α} (h:v.onStr f=some r):∃ l,v = .str l∧f l=some r:=by
 unfold AV.onStr at h;split at h
 ·exact ⟨_,rfl,h⟩
 ·cases h
theorem onBs_inv {α:Type} {v:AV} {f:List UInt8→Option α} {r:α} (h:v.onBs f=some r):∃ l,v = .bs l∧f l=some r:=by
 unfold AV.onBs at h;split at h
 ·exact ⟨_,rfl,h⟩
 ·cases h
theorem onGuard_inv {α:Type} {v:AV} {f:Bool→Option α} {s:Option α} {r:α} (h:v.onGuard f s=some r):(∃ l,v = .bool l∧f l=some r)∨(v = .tup []∧s=some r):=by
 unfold AV.onGuard at h
 split at h
 ·exact .inl ⟨_,rfl,h⟩
 ·exact .inr ⟨rfl,h⟩
 ·cases h
theorem onClo_inv {α:Type} {v:AV} {f:Nat→List (Nat×Nat)→List (Nat×Nat)→Option α} {r:α} (h:v.onClo f=some r):(∃ n,v = .fn n∧f n [] []=some r)∨∃ n a b,v = .clo n a b∧f n a b=some r:=by
 unfold AV.onClo at h
 split at h
 ·exact .inl ⟨_,rfl,h⟩
 ·exact .inr ⟨_,_,_,rfl,h⟩
 ·cases h
theorem onBool_inv {α:Type} {v:AV} {f:Bool→Option α} {r:α} (h:v.onBool f=some r):∃ l,v = .bool l∧f l=some r:=by
 unfold AV.onBool at h;split at h
 ·exact ⟨_,rfl,h⟩
 ·cases h
theorem onOwnB_inv {α:Type} {v:AV} {f:List UInt8→Option α} {r:α} (h:v.onOwnB f=some r):∃ l,v = .ownB l∧f l=some r:=by
 unfold AV.onOwnB at h;split at h
 ·exact ⟨_,rfl,h⟩
 ·cases h
theorem onOwnL_inv {α:Type} {v:AV} {f:List AV→Option α} {r:α} (h:v.onOwnL f=some r):∃ l,v = .ownL l∧f l=some r:=by
 unfold AV.onOwnL at h;split at h
 ·exact ⟨_,rfl,h⟩
 ·cases h
theorem onSl_inv {α:Type} {v:AV} {z:Nat} {f:List AV→Option α} {r:α} (h:v.onSl z f=some r):∃ l,v = .sl z l∧f l=some r:=by
 unfold AV.onSl at h
 split at h
 ·rename_i z' l
  cases he:Nat.beq z' z with
  | false=>rw [he] at h;cases h
  | true =>
   have:=Zy he
   subst this
   rw [he] at h
   exact ⟨l,rfl,h⟩
 ·cases h
theorem norm_inv {α:Type} {i:TI} {v:AV} {k:AV→Option α} {r:α} (h:norm i v k=some r):k v=some r:=by
 unfold norm at h
 split at h
 ·obtain ⟨l,rfl,h⟩:=onAgg_inv h
  exact normCs_inv h
 ·split at h
  ·exact norm1_inv h
  ·cases h
theorem chk_inv {α:Type} {b:Bool} {f:Option α} {r:α} (h:chk b f=some r):b=true∧f=some r:=by
 cases b
 ·cases h
 ·exact ⟨rfl,h⟩
theorem bif_inv {α:Type} {b:Bool} {f:Option α} {r:α} (h:(bif b then f else none)=some r):b=true∧f=some r:=by
 cases b
 ·cases h
 ·exact ⟨rfl,h⟩
theorem onNilB_inv {α:Type} {l:Blocks} {f:Option α} {r:α} (h:onNilB l f=some r):l=[]∧f=some r:=by
 unfold onNilB at h
 split at h
 ·exact ⟨rfl,h⟩
 ·cases h
theorem onConsB_inv {α:Type} {l:Blocks} {f:List AV→Blocks→Option α} {r:α} (h:onConsB l f=some r):∃ x t,l=x::t∧f x t=some r:=by
 unfold onConsB at h
 split at h
 ·exact ⟨_,_,rfl,h⟩
 ·cases h
theorem normLike_inv {α:Type} {o v:AV} {k:AV→Option α} {r:α} (h:normLike o v k=some r):k v=some r∧∀ (β:Type) (k2:AV→Option β),normLike o v k2=k2 v:=by
 cases o<;>simp only [normLike] at h ⊢
 case int kd n =>
  cases v<;>simp only [AV.onInt] at h ⊢ <;> try (cases h;done)
  rename_i k' m
  cases he:(k'==kd) with
  | false=>rw [he] at h;cases h
  | true =>
   have:k'=kd:=by simpa using he
   subst this
   rw [he] at h
   exact ⟨h,fun _ _=>rfl⟩
 case u8 b=>cases v<;>simp only [AV.onU8] at h ⊢ <;> first | (cases h;done) | exact ⟨h,fun _ _=>trivial⟩
 case bool b=>cases v<;>simp only [AV.onBool] at h ⊢ <;> first | (cases h;done) | exact ⟨h,fun _ _=>trivial⟩
 case str b=>cases v<;>simp only [AV.onStr] at h ⊢ <;> first | (cases h;done) | exact ⟨h,fun _ _=>trivial⟩
 case bs b=>cases v<;>simp only [AV.onBs] at h ⊢ <;> first | (cases h;done) | exact ⟨h,fun _ _=>trivial⟩
 case sl z b =>
  cases v<;>simp only [AV.onSl] at h ⊢ <;> try (cases h;done)
  rename_i z' l
  cases he:Nat.beq z' z with
  | false=>rw [he] at h;cases h
  | true =>
   have:=Zy he
   subst this
   rw [he] at h
   exact ⟨h,fun _ _=>rfl⟩
 all_goals exact ⟨h,fun _ _=>trivial⟩
theorem normLikes_inv {α:Type}:∀ {os l:List AV} {k:List AV→Option α} {r:α},normLikes os l k=some r→k l=some r∧os.length=l.length∧∀ (β:Type) (k2:List AV→Option β),normLikes os l k2=k2 l
 | [],l,k,r,h=>by obtain ⟨rfl,h⟩:=onNil_inv h;exact ⟨h,rfl,fun _ _=>rfl⟩
 | o::os,l,k,r,h=>by
  simp only [normLikes] at h
  obtain ⟨x,t,rfl,h1⟩:=onCons_inv h
  obtain ⟨h2,d2⟩:=normLike_inv h1
  obtain ⟨h3,e3,d3⟩:=normLikes_inv (k:=fun r'=>k (x::r')) h2
  exact ⟨h3,by simp [e3],fun β k2=>by simp only [normLikes,onCons];rw [d2,d3]⟩
theorem pickP_inv {α:Type}:∀ {l:List Nat} {n:Nat} {f:Nat→Option α} {r:α},pickP l n f=some r→∃ o,l[n]? = some o∧f o=some r
 | [],n,f,r,h=>by cases h
 | o::l,n,f,r,h=>by
  simp only [pickP,sel] at h
  cases n with
  | zero=>exact ⟨o,rfl,h⟩
  | succ n =>
   have hb:Nat.beq (n+1) 0=false:=rfl
   rw [hb] at h
   obtain ⟨o',h1,h2⟩:=pickP_inv h
   exact ⟨o',by simpa using h1,h2⟩
theorem doBinC_inv {op:BinOp} {x y v:AV} (h:doBinC op x y=some (true,v)):doBin op x y=some v:=by
 have hmap:∀ {o:Option AV},(o.map fun v=>(true,v))=some (true,v)→o=some v:=fun {o} h=>by
  cases o with
  | none=>cases h
  | some w=>cases h;rfl
 have hints:∀ {f:IntKind→Int→Int→Bool} {gg:IntKind→Int→Int→AV},intsOf x y (fun k n m=>some (f k n m,gg k n m))=some (true,v)→intsOf x y (fun k n m=>chk (f k n m) (some (gg k n m)))=some v:=by
  intro f gg h
  unfold intsOf at h ⊢
  split at h
  ·obtain ⟨hb,h⟩:=bif_inv h
   rw [hb]
   simp only [Option.some.injEq,Prod.mk.injEq] at h
   simp only [h.1,h.2,chk,cond_true]
  ·simp only [Option.some.injEq,Prod.mk.injEq] at h
   simp only [h.1,h.2,chk,cond_true]
  ·cases h
 cases op<;>simp only [doBinC] at h<;>first | exact hmap h | exact hints h | skip
 ·split at h
  ·simp only [Option.some.injEq,Prod.mk.injEq] at h
   simp only [doBin,h.1,h.2,chk,cond_true]
  ·exact hmap h
 all_goals
  split at h
  ·rename_i hm
   simp only [Option.some.injEq,Prod.mk.injEq] at h
   simp only [doBin,hm,h.1,h.2,chk,cond_true]
  ·rename_i hm
   simp only [Option.some.injEq,Prod.mk.injEq] at h
   simp only [doBin,hm,h.1,h.2,chk,cond_true]
  ·cases h
theorem doBinTC_inv {i:TI} {op:BinOp} {x y v:AV} (h:doBinTC i op x y=some (true,v)):doBinT i op x y=some v:=by
 cases x<;>simp only [doBinTC,doBinT] at h ⊢ <;> try (first | exact doBinC_inv h | (cases h;done))
 ·cases hk:i.kind<;>rw [hk] at h<;>simp only at h ⊢ <;> first | exact doBinC_inv h | (cases h;done)
 ·cases he:i.eqc with
  | nil=>rw [he] at h;cases h
  | cons c r =>
   rw [he] at h
   simp only at h ⊢
   obtain ⟨hb,h⟩:=bif_inv h
   rw [hb]
   exact doBinC_inv h
theorem placeL_eq:∀ (cs:List AV) (off:Nat) (n:List AV),off+n.length≤cs.length→placeL cs off n=place cs off n
 | [],off,n,h=>by
  have hn:n.length=0:=by simp only [List.length_nil] at h;omega
  have:n=[]:=List.eq_nil_of_length_eq_zero hn
  subst this;simp [placeL,place]
 | c::cs,0,n,h=>by
  cases n with
  | nil=>simp [placeL,place]
  | cons x r =>
   have:=placeL_eq cs 0 r (by simp at h;omega)
   simp only [placeL,this,place,List.take_zero,List.nil_append,Nat.zero_add,List.length_cons,List.drop_succ_cons,List.cons_append]
 | c::cs,k+1,n,h=>by
  have:=placeL_eq cs k n (by simp at h;omega)
  simp only [placeL,this,place,List.take_succ_cons,List.cons_append]
  rw [show k+1+n.length=(k+n.length)+1 by omega,List.drop_succ_cons]
theorem flat_get {sz:Nat}:∀ {els:List AV},(∀ x∈els,x.cells.length=sz)→∀ {n:Nat} {x:AV},els[n]? = some x→∀ {j:Nat} {c:AV},x.cells[j]? = some c→(els.flatMap AV.cells)[n*sz+j]? = some c
 | [],_,n,x,h,_,_,_=>by simp at h
 | y::r,hs,n,x,h,j,c,hj=>by
  have hy:=hs y (by simp)
  rw [List.flatMap_cons]
  cases n with
  | zero =>
   simp at h
   subst h
   have:j<y.cells.length:=(List.getElem?_eq_some_iff.1 hj).1
   rw [Nat.zero_mul,Nat.zero_add,List.getElem?_append_left this]
   exact hj
  | succ n =>
   simp at h
   have ih:=flat_get (fun z hz=>hs z (by simp [hz])) h hj
   rw [List.getElem?_append_right (by rw [hy,Nat.add_mul];omega)]
   rw [show (n+1)*sz+j-y.cells.length=n*sz+j by rw [hy,Nat.add_mul];omega]
   exact ih
theorem flat_length {sz:Nat}:∀ {els:List AV},(∀ x∈els,x.cells.length=sz)→(els.flatMap AV.cells).length=els.length*sz
 | [],_=>by simp
 | x::r,h=>by
  rw [List.flatMap_cons,List.length_append,flat_length fun y hy=>h y (by simp [hy]),h x (by simp),List.length_cons,Nat.add_mul]
  omega
theorem norm1_cell {α:Type} {c:CT} {v:AV} {k:AV→Option α} {r:α} (h:norm1 c v k=some r):v.cells=[v]:=by
 cases v<;>first | rfl | (cases c<;>simp [norm1,AV.onInt,AV.onU8,AV.onBool,AV.onStr,AV.onBs,AV.onSl] at h)
theorem norm_cell {α:Type} {i:TI} {v:AV} {k:AV→Option α} {r:α} (h:norm i v k=some r) (ha:isAggK i.kind=false):v.cells=[v]:=by
 unfold norm at h
 rw [ha] at h
 simp only at h
 split at h
 ·exact norm1_cell h
 ·cases h
theorem norm_cts {α:Type} {i:TI} {v:AV} {k:AV→Option α} {r:α} (h:norm i v k=some r):match v with | .ownB _=>False | .ownL _=>False | _=>True:=by
 cases v<;>try trivial
 all_goals
  unfold norm at h
  split at h
  ·simp [AV.onAgg] at h
  ·split at h
   ·rename_i c _
    cases c<;>simp [norm1,AV.onInt,AV.onU8,AV.onBool,AV.onStr,AV.onBs,AV.onSl] at h
   ·cases h
theorem normCs_noOwn {α:Type}:∀ {cts:List CT} {cs:List AV} {k:List AV→Option α} {r:α},normCs cts cs k=some r→∀ (j:Nat) (l:List AV),cs[j]? = some (.ownL l)→False
 | [],cs,k,r,h,j,l,hj=>by
  obtain ⟨rfl,_⟩:=onNil_inv h
  simp at hj
 | c::cts,cs,k,r,h,j,l,hj=>by
  obtain ⟨x,q,rfl,h2⟩:=onCons_inv h
  cases j with
  | zero =>
   simp only [List.getElem?_cons_zero,Option.some.injEq] at hj
   subst hj
   cases c<;>simp [norm1,AV.onInt,AV.onU8,AV.onBool,AV.onStr,AV.onBs,AV.onSl] at h2
  | succ j =>
   have h3:=norm1_inv h2
   exact normCs_noOwn h3 j l (by simpa using hj)
theorem norm_noOwn {α:Type} {i:TI} {cs:List AV} {k:AV→Option α} {r:α} (h:norm i (.agg cs) k=some r) (j:Nat) (l:List AV) (hj:cs[j]? = some (.ownL l)):False:=by
 unfold norm at h
 split at h
 ·exact normCs_noOwn h j l hj
 ·split at h
  ·rename_i c _
   cases c<;>simp [norm1,AV.onInt,AV.onU8,AV.onBool,AV.onStr,AV.onBs,AV.onSl] at h
  ·cases h
theorem normO_inv {α:Type} {t:Nat}:∀ {j:Nat} {cts:List CT} {cs:List AV} {k:List AV→List AV→Option α} {r:α},normO t j cts cs k=some r→∃ l,cs[j]? = some (.ownL l)∧k (cs.set j (.row t)) l=some r
 | 0,[],cs,k,r,h=>by simp only [normO] at h;cases h
 | j+1,[],cs,k,r,h=>by simp only [normO] at h;cases h
 | 0,c::cts,cs,k,r,h=>by
  simp only [normO] at h
  obtain ⟨x,q,rfl,h2⟩:=onCons_inv h
  obtain ⟨l,rfl,h3⟩:=onOwnL_inv h2
  exact ⟨l,by simp,by simpa using normCs_inv h3⟩
 | j+1,c::cts,cs,k,r,h=>by
  simp only [normO] at h
  obtain ⟨x,q,rfl,h2⟩:=onCons_inv h
  obtain ⟨l,h4,h5⟩:=normO_inv (norm1_inv h2)
  exact ⟨l,by simpa using h4,by simpa using h5⟩
theorem inStr_inv {α:Type} {E:Env} {fs:List (Nat×Nat)} {t:Nat} {i:TI} {v:AV} {st:Nat→Blk} {k:AV→(Nat→Blk)→FP→Option α} {r:α} (h:inStr E fs t i v st k=some r) :
  (∃ cs j l e ei,v = .agg cs∧cs[j]? = some (.ownL l)∧st t = .free∧slAt E.ty fs=some (j,e,ei)∧k (.agg (cs.set j (.row t))) (upd st t (.rowL e ei.size l false)) ⟨[t],[t]⟩=some r)∨norm i v (fun v'=>k v' st .none)=some r:=by
 unfold inStr at h
 split at h
 ·rename_i j e ei hf
  split at h
  ·rename_i ht
   obtain ⟨cs,rfl,h2⟩:=onAgg_inv h
   obtain ⟨l,h3,h4⟩:=normO_inv h2
   exact .inl ⟨cs,j,l,e,ei,rfl,h3,ht,hf,h4⟩
  ·cases h
 ·exact .inr h
end Go.Abs
/- The types of a program, as the abstract interpreter sees them. -/
namespace Go.Abs
set_option linter.unusedVariables false
def isU8 (P:Program) (t:Nat):Bool :=
 match P.underlying t,P.info? t with
 | some (.int .u8),some i=>i.size==1&&i.bytes==1&&(match i.zero with | some (.int .u8 0)=>true | _=>false)
 | _,_=>false
def sized (P:Program) (t:Nat):Bool:=match P.info? t with | some i=>Nat.blt 0 i.size | none=>false
def ctsOf (P:Program):Nat→Nat→Option (List CT)
 | 0,_=>none
 | n+1,t=>match P.underlying t with
  | some (.int .u8)=>some [.u8]
  | some (.int k)=>some [.int k]
  | some .bool=>some [.bool]
  | some .string=>some [.str]
  | some (.slice e)=>some [if isU8 P e then .bsl else .sl (match P.info? e with | some i=>i.size | none=>0)]
  | some (.pointer _)=>some [.ptr]
  | some (.struct fs)=>fs.toList.foldr (fun f acc=>match ctsOf P n f.type,acc with | some a,some b=>some (a++b) | _,_=>none) (some [])
  | some (.array k e)=>match ctsOf P n e with
   | some l=>some ((List.replicate k l).flatten)
   | none=>none
  | _=>none
def kindOf (P:Program) (t:Nat):Option TK :=
 match P.underlying t with
 | some (.int .u8)=>some .u8
 | some (.int k)=>some (.int k)
 | some .bool=>some .bool
 | some .string=>some .str
 | some (.slice e)=>some (.slice e (isU8 P e))
 | some (.pointer e)=>some (.ptr e)
 | some (.array n e)=>some (.arr n e (isU8 P e))
 | some (.struct fs) => if fs.toList.all (fun f => sized P f.type && f.name != "_") then some (.struct (fs.toList.map fun f => (f.offset, f.type))) else none
 | _=>none
def layoutOK (P:Program):List Field→Nat→Bool
 | [],_=>true
 | f :: r, o => f.offset == o && f.name != "_" && (match P.info? f.type with | some i => Nat.blt 0 i.size && layoutOK P r (o + i.size) | none => false)
def ctInt (k:IntKind):CT:=match k with | .u8 => .u8 | k => .int k
def joinC (a:Option (List CT)) (i:Option TypeInfo) (b:Option (List CT)):Option (List CT) :=
 match a with
 | some a=>match i with
  | some i=>match b with
   | some b=>if a.length=i.size then some (a++b) else none
   | none=>none
  | none=>none
 | none=>none
def eqCts (P:Program):Nat→Nat→Option (List CT)
 | 0,_=>none
 | n+1,t=>match P.underlying t,P.info? t with
  | some (.int k),some i=>if i.size=1 then some [ctInt k] else none
  | some .bool,some i=>if i.size=1 then some [.bool] else none
  | some .string,some i=>if i.size=1 then some [.str] else none
  | some (.struct fs),some i=>if P.stoodInHeld t=false∧layoutOK P fs.toList 0=true then fs.toList.foldr (fun f acc=>joinC (eqCts P n f.type) (P.info? f.type) acc) (some []) else none
  | _,_=>none
def mkTI (P:Program) (t:Nat):Option TI :=
 match P.info? t,kindOf P t,ctsOf P 20 t with
 | some i,some k,some cts=>match i.zero.bind fun v=>ofCells v.cells.toList with
  | some z=>if z.length=i.size&&cts.length=i.size then some ⟨i.size,i.bytes,k,z,cts,if P.eqGuardType P.depth t=false then (eqCts P 20 t).getD [] else []⟩ else none
  | none=>none
 | _,_,_=>none
end Go.Abs
/- What it means that a value of the model's, in a world, is one of the abstract interpreter's; and that this stays so. -/
namespace Go.Abs
set_option linter.unusedVariables false
abbrev Prot:=Nat→Nat
def u8v (b:UInt8):Value := .int .u8 b.toNat
inductive RepI (w:World) (p:Prot):Value→AV→Prop
 | int {k:IntKind} {n:Int} (hk:k ≠ .u8):RepI w p (.int k n) (.int k n)
 | u8 {b:UInt8}:RepI w p (u8v b) (.u8 b)
 | bool {b:Bool}:RepI w p (.bool b) (.bool b)
 | str {s:ByteArray} {l:List UInt8} (h:s.data.toList=l):RepI w p (.string s) (.str l)
 | bs {a:Option Addr} {len cap:Nat} {l:List UInt8} (β off:Nat) (hl:l.length=len) (hc:len≤cap) (ha:len=0∨a=some ⟨β,off,none⟩)
   (h:∀ i b,l[i]? = some b→off+i<p β∧w.cell? ⟨β,off+i,none⟩=some (u8v b)):RepI w p (.slice a len cap) (.bs l)
 | sl {a:Option Addr} {len cap sz:Nat} {els:List AV} (β off:Nat) (vs:Nat→Value) (hl:els.length=len) (hc:len≤cap) (hsz:∀ e∈els,e.cells.length=sz) (ha:len=0∨a=some ⟨β,off,none⟩)
   (h:∀ j c,(els.flatMap AV.cells)[j]? = some c→off+j<p β∧w.cell? ⟨β,off+j,none⟩=some (vs j))
   (hr:∀ j c,(els.flatMap AV.cells)[j]? = some c→RepI w p (vs j) c):RepI w p (.slice a len cap) (.sl sz els)
 | nils {a:Option Addr}:RepI w p (.slice a 0 0) .nils
 | nilp:RepI w p (.pointer none) .nilp
 | fn {f:Nat}:RepI w p (.func (.func f) #[] #[]) (.fn f)
 | rptr {β off:Nat} {cs:List AV} (vs:Nat→Value) (h:∀ j c,cs[j]? = some c→off+j<p β∧w.cell? ⟨β,off+j,none⟩=some (vs j))
   (hr:∀ j c,cs[j]? = some c→RepI w p (vs j) c):RepI w p (.pointer (some ⟨β,off,none⟩)) (.rptr cs)
structure Cells (R:Value→AV→Prop) (vs:List Value) (cs:List AV):Prop where
 len:vs.length=cs.length
 each:∀ (i:Nat) (v:Value) (c:AV),vs[i]? = some v→cs[i]? = some c→R v c
theorem Cells.imp {R R':Value→AV→Prop} {vs:List Value} {cs:List AV} (h:Cells R vs cs) (hr:∀ v c,R v c→R' v c):Cells R' vs cs :=
 ⟨h.len,fun i v c hv hc=>hr v c (h.each i v c hv hc)⟩
theorem Cells.nil {R:Value→AV→Prop}:Cells R [] []:=⟨rfl,fun i v c hv=>by simp at hv⟩
theorem Cells.cons {R:Value→AV→Prop} {v:Value} {c:AV} {vs:List Value} {cs:List AV} (h:R v c) (t:Cells R vs cs):Cells R (v::vs) (c::cs) :=
 ⟨by simp [t.len],fun i x y hx hy=>by
  cases i with
  | zero=>simp at hx hy;subst hx;subst hy;exact h
  | succ i=>simp at hx hy;exact t.each i x y hx hy⟩
theorem Cells.uncons {R:Value→AV→Prop} {vs:List Value} {c:AV} {cs:List AV} (h:Cells R vs (c::cs)):∃ v vs',vs=v::vs'∧R v c∧Cells R vs' cs:=by
 cases vs with
 | nil=>have:=h.len;simp at this
 | cons v vs'=>exact ⟨v,vs',rfl,h.each 0 v c rfl rfl,by have:=h.len;simpa using this,fun i x y hx hy=>h.each (i+1) x y (by simpa using hx) (by simpa using hy)⟩
theorem Cells.nil_iff {R:Value→AV→Prop} {vs:List Value} (h:Cells R vs []):vs=[]:=List.eq_nil_of_length_eq_zero (by simpa using h.len)
theorem Cells.get {R:Value→AV→Prop} {vs:List Value} {cs:List AV} (h:Cells R vs cs) {i:Nat} {c:AV} (hc:cs[i]? = some c):∃ v,vs[i]? = some v∧R v c:=by
 have hi:i<cs.length:=(List.getElem?_eq_some_iff.1 hc).1
 have hi':i<vs.length:=by rw [h.len];exact hi
 exact ⟨vs[i],List.getElem?_eq_getElem hi',h.each i _ c (List.getElem?_eq_getElem hi') hc⟩
theorem Cells.drop {R:Value→AV→Prop} {vs:List Value} {cs:List AV} (h:Cells R vs cs) (n:Nat):Cells R (vs.drop n) (cs.drop n) :=
 ⟨by simp [h.len],fun i v c hv hc=>h.each (n+i) v c (by simpa using hv) (by simpa using hc)⟩
theorem Cells.take {R:Value→AV→Prop} {vs:List Value} {cs:List AV} (h:Cells R vs cs) (n:Nat):Cells R (vs.take n) (cs.take n) :=
 ⟨by simp [h.len],fun i v c hv hc=>by
  rw [List.getElem?_take] at hv hc
  split at hv
  ·rw [if_pos ‹_›] at hc;exact h.each i v c hv hc
  ·cases hv⟩
theorem Cells.append {R:Value→AV→Prop} {vs us:List Value} {cs ds:List AV} (h:Cells R vs cs) (k:Cells R us ds):Cells R (vs++us) (cs++ds) :=
 ⟨by simp [h.len,k.len],fun i v c hv hc=>by
  rw [List.getElem?_append] at hv hc
  rw [h.len] at hv
  split at hv
  ·rw [if_pos ‹_›] at hc;exact h.each i v c hv hc
  ·rw [if_neg ‹_›] at hc;exact k.each _ v c hv hc⟩
def vblk:Value→Option Nat
 | .pointer (some a)=>some a.block
 | .slice (some a) _ cap=>if cap=0 then none else some a.block
 | _=>none
section
variable (w:World) (p:Prot) (g:Nat→Value) (u:Nat→Prop)
inductive RepC:Value→AV→Prop
 | imm {v:Value} {a:AV} (h:RepI w p v a):RepC v a
 | ptr {k off β:Nat} (hu:u k) (hg:g k = .pointer (some ⟨β,0,none⟩)):RepC (.pointer (some ⟨β,off,none⟩)) (.ptr k off)
 | eptr {k i sz off β:Nat} (hu:u k) (hg:vblk (g k)=some β):RepC (.pointer (some ⟨β,i*sz+off,none⟩)) (.eptr k i sz off)
 | row {k:Nat} (hu:u k) (hs:∃ a l c,g k = .slice a l c):RepC (g k) (.row k)
 | psl {k β b cap:Nat} {offs:List Nat} (hu:u k) (hg:g k = .pointer (some ⟨b,0,none⟩)) (h:∀ (j off:Nat),offs[j]? = some off→j<p β∧w.cell? ⟨β,j,none⟩=some (.pointer (some ⟨b,off,none⟩))):RepC (.slice (some ⟨β,0,none⟩) offs.length cap) (.psl k offs)
 | pptr {k β j off b:Nat} (hu:u k) (hg:g k = .pointer (some ⟨b,0,none⟩)) (hp:j<p β) (hc:w.cell? ⟨β,j,none⟩=some (.pointer (some ⟨b,off,none⟩))):RepC (.pointer (some ⟨β,j,none⟩)) (.pptr k off)
 | pre {k n β l cap:Nat} (hu:u k) (hg:g k = .slice (some ⟨β,0,none⟩) l cap) (hn:n≤l):RepC (.slice (some ⟨β,0,none⟩) n cap) (.pre k n)
 | suf {k m β l cap:Nat} {a:Option Addr} (hu:u k) (hg:g k = .slice (some ⟨β,0,none⟩) l cap) (hm:m≤l) (ha:m=l∨a=some ⟨β,m,none⟩):RepC (.slice a (l-m) (cap-m)) (.suf k m)
 | clo {f:Nat} {vs us:Array Value} {fs cs:List (Nat×Nat)} (h1:vs.size=fs.length) (h2:us.size=cs.length)
   (hf:∀ (j k off:Nat),fs[j]? = some (k,off)→u k∧∃ β,g k = .pointer (some ⟨β,0,none⟩)∧vs[j]? = some (.pointer (some ⟨β,off,none⟩)))
   (hc:∀ (j k off:Nat),cs[j]? = some (k,off)→u k∧∃ β,g k = .pointer (some ⟨β,0,none⟩)∧us[j]? = some (.pointer (some ⟨β,off,none⟩))):RepC (.func (.func f) vs us) (.clo f fs cs)
def RepW (v:Value) (a:AV):Prop :=
 RepC w p g u v a∨∃ arr cs,v = .agg arr∧a = .agg cs∧Cells (RepC w p g u) arr.toList cs
def RepV (v:Value) (a:AV):Prop :=
 a = .undef∨RepW w p g u v a∨∃ arr as,v = .tuple arr∧a = .tup as∧Cells (RepW w p g u) arr.toList as
end
structure Mono (w:World) (p:Prot) (g:Nat→Value) (u:Nat→Prop) (w':World) (p':Prot) (g':Nat→Value) (u':Nat→Prop):Prop where
 prot:∀ β,p β≤p' β
 cell:∀ β i,i<p β→w'.cell? ⟨β,i,none⟩=w.cell? ⟨β,i,none⟩
 gk:∀ k,u k→g' k=g k
 uk:∀ k,u k→u' k
theorem RepI.mono {w w':World} {p p':Prot} (hp:∀ β,p β≤p' β) (hc:∀ β i,i<p β→w'.cell? ⟨β,i,none⟩=w.cell? ⟨β,i,none⟩) {v:Value} {a:AV} (h:RepI w p v a):RepI w' p' v a:=by
 induction h with
 | int hk=>exact .int hk
 | u8=>exact .u8
 | bool=>exact .bool
 | str h=>exact .str h
 | bs β off hl hcap ha h=>exact .bs β off hl hcap ha fun i b hb=>⟨Zz (h i b hb).1 (hp β),(hc β _ (h i b hb).1).trans (h i b hb).2⟩
 | sl β off vs hl hcap hsz ha h _ ih=>exact .sl β off vs hl hcap hsz ha (fun j c hj=>⟨Zz (h j c hj).1 (hp β),(hc β _ (h j c hj).1).trans (h j c hj).2⟩) ih
 | nils=>exact .nils
 | nilp=>exact .nilp
 | fn=>exact .fn
 | rptr vs h _ ih=>exact .rptr vs (fun j c hj=>⟨Zz (h j c hj).1 (hp _),(hc _ _ (h j c hj).1).trans (h j c hj).2⟩) ih
section
variable {w w':World} {p p':Prot} {g g':Nat→Value} {u u':Nat→Prop}
theorem Mono.refl:Mono w p g u w p g u:=⟨fun _=>Nat.le_refl _,fun _ _ _=>rfl,fun _ _=>rfl,fun _ h=>h⟩
theorem Mono.trans {w'':World} {p'':Prot} {g'':Nat→Value} {u'':Nat→Prop} (h:Mono w p g u w' p' g' u') (k:Mono w' p' g' u' w'' p'' g'' u''):Mono w p g u w'' p'' g'' u'' :=
 ⟨fun β=>Nat.le_trans (h.prot β) (k.prot β),fun β i hi=>(k.cell β i (Zz hi (h.prot β))).trans (h.cell β i hi),fun x hx=>(k.gk x (h.uk x hx)).trans (h.gk x hx),fun x hx=>k.uk x (h.uk x hx)⟩
theorem Mono.repI (m:Mono w p g u w' p' g' u') {v:Value} {a:AV} (h:RepI w p v a):RepI w' p' v a:=h.mono m.prot m.cell
theorem Mono.repC (m:Mono w p g u w' p' g' u') {v:Value} {a:AV} (h:RepC w p g u v a):RepC w' p' g' u' v a:=by
 cases h with
 | imm h=>exact .imm (m.repI h)
 | ptr hu hg=>exact .ptr (m.uk _ hu) ((m.gk _ hu).trans hg)
 | eptr hu hg=>exact .eptr (m.uk _ hu) (by rw [m.gk _ hu];exact hg)
 | row hu hs=>rw [← m.gk _ hu];exact .row (m.uk _ hu) (by rw [m.gk _ hu];exact hs)
 | psl hu hg h=>exact .psl (m.uk _ hu) ((m.gk _ hu).trans hg) fun j off hj=>⟨Zz (h j off hj).1 (m.prot _),(m.cell _ _ (h j off hj).1).trans (h j off hj).2⟩
 | pptr hu hg hp hc=>exact .pptr (m.uk _ hu) ((m.gk _ hu).trans hg) (Zz hp (m.prot _)) ((m.cell _ _ hp).trans hc)
 | pre hu hg hn=>exact .pre (m.uk _ hu) ((m.gk _ hu).trans hg) hn
 | suf hu hg hm ha=>exact .suf (m.uk _ hu) ((m.gk _ hu).trans hg) hm ha
 | clo h1 h2 hf hc=>exact .clo h1 h2 (fun j k off hj=>by obtain ⟨hu,β,hg,hv⟩:=hf j k off hj;exact ⟨m.uk _ hu,β,(m.gk _ hu).trans hg,hv⟩) (fun j k off hj=>by obtain ⟨hu,β,hg,hv⟩:=hc j k off hj;exact ⟨m.uk _ hu,β,(m.gk _ hu).trans hg,hv⟩)
theorem Mono.repW (m:Mono w p g u w' p' g' u') {v:Value} {a:AV} (h:RepW w p g u v a):RepW w' p' g' u' v a:=by
 rcases h with h | ⟨arr,cs,rfl,rfl,h⟩
 ·exact .inl (m.repC h)
 ·exact .inr ⟨arr,cs,rfl,rfl,h.imp fun _ _=>m.repC⟩
theorem Mono.repV (m:Mono w p g u w' p' g' u') {v:Value} {a:AV} (h:RepV w p g u v a):RepV w' p' g' u' v a:=by
 rcases h with h | h | ⟨arr,cs,rfl,rfl,h⟩
 ·exact .inl h
 ·exact .inr (.inl (m.repW h))
 ·exact .inr (.inr ⟨arr,cs,rfl,rfl,h.imp fun _ _=>m.repW⟩)
end
def RowOK (w:World) (B e size:Nat) (v:Value) (n:Nat) (xs:List Value):Prop :=
 xs.length=n*size∧((n=0∧∃ a,v = .slice a 0 0) ∨
  ∃ β cap cur,v = .slice (some ⟨β,0,none⟩) n cap∧0<cap∧B≤β∧w.heap[β]? = some (.cells cur e (0,0))∧n≤cap∧cap≤maxLen∧cur.size=cap*size∧cur.toList.take (n*size)=xs)
def used (st:Nat→Blk) (k:Nat):Prop:=st k ≠ .free
def BlkOK (w:World) (p:Prot) (g:Nat→Value) (u:Nat→Prop) (B:Nat) (M:Nat→Prop) (k:Nat):Blk→Prop
 | .free=>True
 | .dead=>True
 | .cells cs=>∃ β c e,g k = .pointer (some ⟨β,0,none⟩)∧(M β∨B≤β)∧w.heap[β]? = some (.cells c e (0,0))∧Cells (RepC w p g u) c.toList cs∧p β=0
 | .barr l pub=>∃ β c e,g k = .pointer (some ⟨β,0,none⟩)∧B≤β∧w.heap[β]? = some (.cells c e (0,0))∧c.toList=l.map u8v∧p β≤l.length∧(pub=false→p β=0)
 | .rowB e l pub=>RowOK w B e 1 (g k) l.length (l.map u8v)∧∀ β,vblk (g k)=some β→p β≤l.length∧(pub=false→p β=0)
 | .rowL e sz els pub=>0<sz∧(∀ x∈els,x.cells.length=sz)∧∃ vs,RowOK w B e sz (g k) els.length vs∧Cells (RepI w p) vs (els.flatMap AV.cells) ∧
   ∀ β,vblk (g k)=some β→p β≤els.length*sz∧(pub=false→p β=0)
def Blk.live:Blk→Prop
 | .free=>False
 | .dead=>False
 | _=>True
structure SInv (B:Nat) (M:Nat→Prop) (w0:World) (p0:Prot) (w:World) (p:Prot) (g:Nat→Value) (st:Nat→Blk):Prop where
 os:w.os=w0.os
 tape:w.tape=w0.tape
 output:w.output=w0.output
 size:B≤w.heap.size
 old:∀ β,β<B→¬ M β→w.heap[β]? = w0.heap[β]?
 blk:∀ k,BlkOK w p g (used st) B M k (st k)
 dist:∀ k k' β,k≠k'→(st k).live→(st k').live→vblk (g k)=some β→vblk (g k')≠some β
 newp:∀ β,w.heap.size≤β→p β=0
 oldp:∀ β,β<B→p β=p0 β
theorem cell_heap {w:World} {β i:Nat} {c:Array Value} {e:TypeId} {f:Nat×Nat} (h:w.heap[β]? = some (.cells c e f)):w.cell? ⟨β,i,none⟩=c[i]? := by
 simp [World.cell?,h]
theorem heap_lt {w:World} {β:Nat} {o:Obj} (h:w.heap[β]? = some o):β<w.heap.size:=(Array.getElem?_eq_some_iff.1 h).1
theorem cell_same {w w':World} {β:Nat} (h:w'.heap[β]? = w.heap[β]?) (i:Nat):w'.cell? ⟨β,i,none⟩=w.cell? ⟨β,i,none⟩:=by
 simp [World.cell?,h]
theorem upd_same {β:Type} (f:Nat→β) (k:Nat) (b:β):upd f k b k=b:=by simp [upd]
theorem upd_ne {β:Type} (f:Nat→β) {k x:Nat} (b:β) (h:x≠k):upd f k b x=f x:=by
 have hb:Nat.beq x k=false:=by
  cases hb:Nat.beq x k
  ·rfl
  ·exact absurd (Zy hb) h
 simp [upd,hb]
theorem RowOK.keep {w w':World} {B e size:Nat} {v:Value} {n:Nat} {xs:List Value} (h:RowOK w B e size v n xs) (hk:∀ β,vblk v=some β→w'.heap[β]? = w.heap[β]?):RowOK w' B e size v n xs:=by
 obtain ⟨hl,h | ⟨β,cap,cur,rfl,h0,hB,hh,r⟩⟩:=h
 ·exact ⟨hl,.inl h⟩
 ·exact ⟨hl,.inr ⟨β,cap,cur,rfl,h0,hB,by rw [hk β (by simp [vblk];omega)];exact hh,r⟩⟩
theorem BlkOK.keep {w w':World} {p p':Prot} {g g':Nat→Value} {u u':Nat→Prop} {B:Nat} {M:Nat→Prop} {k:Nat} {b:Blk} (h:BlkOK w p g u B M k b) (m:Mono w p g u w' p' g' u') (hu:u k)
  (hk:∀ β,vblk (g k)=some β→w'.heap[β]? = w.heap[β]? ∧ p' β=p β):BlkOK w' p' g' u' B M k b:=by
 have hg:=m.gk k hu
 cases b with
 | free=>trivial
 | dead=>trivial
 | cells cs =>
  obtain ⟨β,c,e,h1,h2,h3,h4,h5⟩:=h
  obtain ⟨e1,e2⟩:=hk β (by rw [h1];rfl)
  exact ⟨β,c,e,hg.trans h1,h2,e1.trans h3,h4.imp fun _ _=>m.repC,e2.trans h5⟩
 | barr l pub =>
  obtain ⟨β,c,e,h1,h2,h3,h4,h5,h6⟩:=h
  obtain ⟨e1,e2⟩:=hk β (by rw [h1];rfl)
  exact ⟨β,c,e,hg.trans h1,h2,e1.trans h3,h4,by rw [e2];exact h5,fun x=>e2.trans (h6 x)⟩
 | rowB e l pub =>
  obtain ⟨h1,h2⟩:=h
  refine ⟨by rw [hg];exact h1.keep fun β hb=>(hk β hb).1,fun β hb=> ?_⟩
  rw [hg] at hb
  rw [(hk β hb).2]
  exact h2 β hb
 | rowL e sz els pub =>
  obtain ⟨h0,h1,vs,h2,h3,h4⟩:=h
  refine ⟨h0,h1,vs,by rw [hg];exact h2.keep fun β hb=>(hk β hb).1,h3.imp fun _ _=>m.repI,fun β hb=> ?_⟩
  rw [hg] at hb
  rw [(hk β hb).2]
  exact h4 β hb
theorem live_used {st:Nat→Blk} {k:Nat} (h:(st k).live):used st k:=fun e=>by rw [e] at h;exact h
theorem BlkOK.vblk_lt {w:World} {p:Prot} {g:Nat→Value} {u:Nat→Prop} {B:Nat} {M:Nat→Prop} {k:Nat} {b:Blk} (h:BlkOK w p g u B M k b) (hl:b.live) {β:Nat} (hv:vblk (g k)=some β):β<w.heap.size:=by
 cases b with
 | free=>exact hl.elim
 | dead=>exact hl.elim
 | cells cs=>obtain ⟨β',c,e,h1,h2,h3,_⟩:=h;rw [h1] at hv;cases hv;exact heap_lt h3
 | barr l pub=>obtain ⟨β',c,e,h1,h2,h3,_⟩:=h;rw [h1] at hv;cases hv;exact heap_lt h3
 | rowB e l pub =>
  obtain ⟨⟨_,⟨_,a,h⟩ | ⟨β',cap,cur,h,h0,hB,hh,_⟩⟩,_⟩:=h
  ·rw [h] at hv;cases a<;>simp [vblk] at hv
  ·rw [h] at hv
   have:β'=β:=by simp [vblk] at hv;exact hv.2
   subst this;exact heap_lt hh
 | rowL e sz els pub =>
  obtain ⟨_,_,vs,⟨_,⟨_,a,h⟩ | ⟨β',cap,cur,h,h0,hB,hh,_⟩⟩,_⟩:=h
  ·rw [h] at hv;cases a<;>simp [vblk] at hv
  ·rw [h] at hv
   have:β'=β:=by simp [vblk] at hv;exact hv.2
   subst this;exact heap_lt hh
theorem SInv.change {B:Nat} {M:Nat→Prop} {w0:World} {p0:Prot} {w w':World} {p p':Prot} {g g':Nat→Value} {st st':Nat→Blk} (h:SInv B M w0 p0 w p g st)
  (hos:w'.os=w.os) (htape:w'.tape=w.tape) (hout:w'.output=w.output) (hsz:w.heap.size≤w'.heap.size)
  (K D:Nat→Prop) (hst:∀ k,¬ K k→st' k=st k) (hu:∀ k,used st k→used st' k) (hg:∀ k,used st k→g' k=g k)
  (hheap:∀ β,β<w.heap.size→¬ D β→w'.heap[β]? = w.heap[β]? ∧ p' β=p β)
  (hD:∀ β,D β→β<B→M β∧p' β=p β)
  (hprot:∀ β,p β≤p' β) (hcell:∀ β i,i<p β→w'.cell? ⟨β,i,none⟩=w.cell? ⟨β,i,none⟩)
  (hnewp:∀ β,w'.heap.size≤β→p' β=0)
  (hdisj:∀ k β,¬ K k→(st k).live→vblk (g k)=some β→¬ D β)
  (hK:∀ k,K k→BlkOK w' p' g' (used st') B M k (st' k))
  (hdist:∀ k k' β,K k→k'≠k→(st' k).live→(st' k').live→vblk (g' k)=some β→vblk (g' k')≠some β) :
  SInv B M w0 p0 w' p' g' st'∧Mono w p g (used st) w' p' g' (used st'):=by
 have hm:Mono w p g (used st) w' p' g' (used st'):=⟨hprot,hcell,hg,hu⟩
 refine ⟨⟨hos.trans h.os,htape.trans h.tape,hout.trans h.output,Nat.le_trans h.size hsz,fun β hβ hM=> ?_,fun k=> ?_,fun k k' β hne hl hl' hv=> ?_,hnewp,fun β hβ=> ?_⟩,hm⟩
 ·have hnD:¬ D β:=fun hd=>hM (hD β hd hβ).1
  exact (hheap β (Zz hβ h.size) hnD).1.trans (h.old β hβ hM)
 ·by_cases hk:K k
  ·exact hK k hk
  ·have hs:=hst k hk
   rw [hs]
   by_cases hl:(st k).live
   ·exact (h.blk k).keep hm (live_used hl) fun β hv=>hheap β ((h.blk k).vblk_lt hl hv) (hdisj k β hk hl hv)
   ·cases hb:st k<;>first | trivial | (rw [hb] at hl;exact absurd trivial hl)
 ·by_cases hk:K k
  ·exact hdist k k' β hk (Ne.symm hne) hl hl' hv
  ·by_cases hk':K k'
   ·intro hv'
    exact hdist k' k β hk' hne hl' hl hv' hv
   ·rw [hst k hk] at hl
    rw [hst k' hk'] at hl'
    rw [hg k (live_used hl)] at hv
    rw [hg k' (live_used hl')]
    exact h.dist k k' β hne hl hl' hv
 ·by_cases hd:D β
  ·exact (hD β hd hβ).2.trans (h.oldp β hβ)
  ·exact (hheap β (Zz hβ h.size) hd).2.trans (h.oldp β hβ)
section
variable {B:Nat} {M:Nat→Prop} {w0:World} {p0:Prot} {w w':World} {p p':Prot} {g:Nat→Value} {st:Nat→Blk}
theorem used_upd {t:Nat} {b:Blk} (hb:b ≠ .free) {k:Nat} (h:used st k):used (upd st t b) k:=by
 by_cases e:k=t
 ·subst e;unfold used;rw [upd_same];exact hb
 ·unfold used;rw [upd_ne _ _ e];exact h
theorem SInv.add (h:SInv B M w0 p0 w p g st) {t:Nat} {b:Blk} {v:Value} (ht:st t = .free) (hb:b ≠ .free)
  (hos:w'.os=w.os) (htape:w'.tape=w.tape) (hout:w'.output=w.output) (hsz:w.heap.size≤w'.heap.size)
  (hheap:∀ β,β<w.heap.size→w'.heap[β]? = w.heap[β]? ∧ p' β=p β) (hprot:∀ β,p β≤p' β) (hnewp:∀ β,w'.heap.size≤β→p' β=0)
  (hv:∀ β,vblk v=some β→w.heap.size≤β)
  (hB:Mono w p g (used st) w' p' (upd g t v) (used (upd st t b))→BlkOK w' p' (upd g t v) (used (upd st t b)) B M t b) :
  SInv B M w0 p0 w' p' (upd g t v) (upd st t b)∧Mono w p g (used st) w' p' (upd g t v) (used (upd st t b)):=by
 have hu:∀ k,used st k→used (upd st t b) k:=fun k hk=>used_upd hb hk
 have hg:∀ k,used st k→upd g t v k=g k:=fun k hk=>upd_ne _ _ (fun e=>by subst e;exact hk ht)
 have hcell:∀ β i,i<p β→w'.cell? ⟨β,i,none⟩=w.cell? ⟨β,i,none⟩:=fun β i hi=>by
  rcases Nat.lt_or_ge β w.heap.size with hlt | hge
  ·exact cell_same (hheap β hlt).1 i
  ·rw [h.newp β hge] at hi;omega
 refine h.change hos htape hout hsz (fun k=>k=t) (fun _=>False) (fun k hk=>upd_ne _ _ hk) hu hg (fun β hβ _=>hheap β hβ) (fun _ hd=>hd.elim) hprot hcell hnewp (fun _ _ _ _ _ hd=>hd.elim) ?_ ?_
 ·rintro k rfl
  rw [upd_same]
  exact hB ⟨hprot,hcell,hg,hu⟩
 ·rintro k k' β rfl hne _ hl' hva hvb
  rw [upd_same] at hva
  rw [upd_ne _ _ hne] at hl' hvb
  have h1:=hv β hva
  have h2:=(h.blk k').vblk_lt hl' hvb
  omega
theorem SInv.modify (h:SInv B M w0 p0 w p g st) {k:Nat} {b:Blk} {β₀:Nat} (hk:(st k).live) (hb:b.live) (hβ:vblk (g k)=some β₀)
  (hos:w'.os=w.os) (htape:w'.tape=w.tape) (hout:w'.output=w.output) (hsz:w'.heap.size=w.heap.size)
  (hheap:∀ β,β≠β₀→w'.heap[β]? = w.heap[β]? ∧ p' β=p β) (hB0:β₀<B→M β₀∧p' β₀=p β₀)
  (hprot:p β₀≤p' β₀) (hcell:∀ i,i<p β₀→w'.cell? ⟨β₀,i,none⟩=w.cell? ⟨β₀,i,none⟩)
  (hB:Mono w p g (used st) w' p' g (used (upd st k b))→BlkOK w' p' g (used (upd st k b)) B M k b) :
  SInv B M w0 p0 w' p' g (upd st k b)∧Mono w p g (used st) w' p' g (used (upd st k b)):=by
 have hbf:b ≠ .free:=fun e=>by rw [e] at hb;exact hb
 have hu:∀ j,used st j→used (upd st k b) j:=fun j hj=>used_upd hbf hj
 have hlt:β₀<w.heap.size:=(h.blk k).vblk_lt hk hβ
 have hprot':∀ β,p β≤p' β:=fun β=>by
  by_cases e:β=β₀
  ·subst e;exact hprot
  ·rw [(hheap β e).2];exact Nat.le_refl _
 have hcell':∀ β i,i<p β→w'.cell? ⟨β,i,none⟩=w.cell? ⟨β,i,none⟩:=fun β i hi=>by
  by_cases e:β=β₀
  ·subst e;exact hcell i hi
  ·exact cell_same (hheap β e).1 i
 refine h.change hos htape hout (by omega) (fun j=>j=k) (fun β=>β=β₀) (fun j hj=>upd_ne _ _ hj) hu (fun _ _=>rfl) (fun β _ hd=>hheap β hd) (fun β hd hlB=>by subst hd;exact hB0 hlB) hprot' hcell' ?_ ?_ ?_ ?_
 ·intro β hβ
  rw [(hheap β (by omega)).2]
  exact h.newp β (by omega)
 ·rintro j β hj hl hv rfl
  exact h.dist j k β hj hl hk hv hβ
 ·rintro j rfl
  rw [upd_same]
  exact hB ⟨hprot',hcell',fun _ _=>rfl,hu⟩
 ·rintro j j' β rfl hne _ hl' hva hvb
  rw [upd_ne _ _ hne] at hl'
  exact h.dist j j' β (Ne.symm hne) hk hl' hva hvb
end
end Go.Abs
