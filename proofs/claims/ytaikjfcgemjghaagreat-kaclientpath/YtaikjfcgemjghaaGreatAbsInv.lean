/- What follows from an eliminator's having a result. -/
import Derived.Test.YtaikjfcgemjghaaGreatAbsExec
namespace Go.Abs
set_option linter.unusedVariables false
theorem norm1_inv {α:Type} {c:CT} {v:AV} {k:AV→Option α} {r:α} (h:norm1 c v k=some r):k v=some r:=by
 unfold norm1 at h
 split at h
 ·rename_i kd
  unfold AV.onInt at h
  split at h
  ·rename_i _ k' n
   cases he:(k'==kd) with
   | false=>rw [he] at h;cases h
   | true =>
    have:k'=kd:=by simpa using he
    subst this
    rw [he] at h;exact h
  ·cases h
 ·unfold AV.onU8 at h;split at h<;>first | exact h | cases h
 ·unfold AV.onBool at h;split at h<;>first | exact h | cases h
 ·unfold AV.onStr at h;split at h<;>first | exact h | cases h
 ·unfold AV.onBs at h;split at h<;>first | exact h | cases h
 ·rename_i z
  unfold AV.onSl at h
  split at h
  ·rename_i _ z' l
   cases he:Nat.beq z' z with
   | false=>rw [he] at h;cases h
   | true =>
    have:=Nat.eq_of_beq_eq_true he
    subst this
    rw [he] at h;exact h
  ·cases h
 ·cases h
theorem onCons_inv {α:Type} {l:List AV} {f:AV→List AV→Option α} {r:α} (h:onCons l f=some r):∃ x t,l=x::t∧f x t=some r:=by
 unfold onCons at h
 split at h
 ·exact ⟨_,_,rfl,h⟩
 ·cases h
theorem onNil_inv {α:Type} {l:List AV} {f:Option α} {r:α} (h:onNil l f=some r):l=[]∧f=some r:=by
 unfold onNil at h
 split at h
 ·exact ⟨rfl,h⟩
 ·cases h
theorem normCs_inv {α:Type}:∀ {cs:List CT} {l:List AV} {k:List AV→Option α} {r:α},normCs cs l k=some r→k l=some r
 | [],l,k,r,h=>by obtain ⟨rfl,h⟩:=onNil_inv h;exact h
 | c::cs,l,k,r,h=>by
  simp only [normCs] at h
  obtain ⟨x,t,rfl,h1⟩:=onCons_inv h
  exact normCs_inv (k:=fun r'=>k (x::r')) (norm1_inv h1)
theorem onAgg_inv {α:Type} {v:AV} {f:List AV→Option α} {r:α} (h:v.onAgg f=some r):∃ l,v = .agg l∧f l=some r:=by
 unfold AV.onAgg at h;split at h
 ·exact ⟨_,rfl,h⟩
 ·cases h
theorem onTup_inv {α:Type} {v:AV} {f:List AV→Option α} {r:α} (h:v.onTup f=some r):∃ l,v = .tup l∧f l=some r:=by
 unfold AV.onTup at h;split at h
 ·exact ⟨_,rfl,h⟩
 ·cases h
theorem onStr_inv {α:Type} {v:AV} {f:List UInt8→Option α} {r:α} (h:v.onStr f=some r):∃ l,v = .str l∧f l=some r:=by
 unfold AV.onStr at h;split at h
 ·exact ⟨_,rfl,h⟩
 ·cases h
theorem onBs_inv {α:Type} {v:AV} {f:List UInt8→Option α} {r:α} (h:v.onBs f=some r):∃ l,v = .bs l∧f l=some r:=by
 unfold AV.onBs at h;split at h
 ·exact ⟨_,rfl,h⟩
 ·cases h
theorem onGuard_inv {α:Type} {v:AV} {f:Bool→Option α} {s:Option α} {r:α} (h:v.onGuard f s=some r):(∃ l,v = .bool l∧f l=some r)∨(v = .tup []∧s=some r):=by
 unfold AV.onGuard at h
 split at h
 ·exact .inl ⟨_,rfl,h⟩
 ·exact .inr ⟨rfl,h⟩
 ·cases h
theorem onClo_inv {α:Type} {v:AV} {f:Nat→List (Nat×Nat)→List (Nat×Nat)→Option α} {r:α} (h:v.onClo f=some r):(∃ n,v = .fn n∧f n [] []=some r)∨∃ n a b,v = .clo n a b∧f n a b=some r:=by
 unfold AV.onClo at h
 split at h
 ·exact .inl ⟨_,rfl,h⟩
 ·exact .inr ⟨_,_,_,rfl,h⟩
 ·cases h
theorem onBool_inv {α:Type} {v:AV} {f:Bool→Option α} {r:α} (h:v.onBool f=some r):∃ l,v = .bool l∧f l=some r:=by
 unfold AV.onBool at h;split at h
 ·exact ⟨_,rfl,h⟩
 ·cases h
theorem onOwnB_inv {α:Type} {v:AV} {f:List UInt8→Option α} {r:α} (h:v.onOwnB f=some r):∃ l,v = .ownB l∧f l=some r:=by
 unfold AV.onOwnB at h;split at h
 ·exact ⟨_,rfl,h⟩
 ·cases h
theorem onOwnL_inv {α:Type} {v:AV} {f:List AV→Option α} {r:α} (h:v.onOwnL f=some r):∃ l,v = .ownL l∧f l=some r:=by
 unfold AV.onOwnL at h;split at h
 ·exact ⟨_,rfl,h⟩
 ·cases h
theorem onSl_inv {α:Type} {v:AV} {z:Nat} {f:List AV→Option α} {r:α} (h:v.onSl z f=some r):∃ l,v = .sl z l∧f l=some r:=by
 unfold AV.onSl at h
 split at h
 ·rename_i z' l
  cases he:Nat.beq z' z with
  | false=>rw [he] at h;cases h
  | true =>
   have:=Nat.eq_of_beq_eq_true he
   subst this
   rw [he] at h
   exact ⟨l,rfl,h⟩
 ·cases h
theorem norm_inv {α:Type} {i:TI} {v:AV} {k:AV→Option α} {r:α} (h:norm i v k=some r):k v=some r:=by
 unfold norm at h
 split at h
 ·obtain ⟨l,rfl,h⟩:=onAgg_inv h
  exact normCs_inv h
 ·split at h
  ·exact norm1_inv h
  ·cases h
theorem chk_inv {α:Type} {b:Bool} {f:Option α} {r:α} (h:chk b f=some r):b=true∧f=some r:=by
 cases b
 ·cases h
 ·exact ⟨rfl,h⟩
theorem bif_inv {α:Type} {b:Bool} {f:Option α} {r:α} (h:(bif b then f else none)=some r):b=true∧f=some r:=by
 cases b
 ·cases h
 ·exact ⟨rfl,h⟩
theorem onNilB_inv {α:Type} {l:Blocks} {f:Option α} {r:α} (h:onNilB l f=some r):l=[]∧f=some r:=by
 unfold onNilB at h
 split at h
 ·exact ⟨rfl,h⟩
 ·cases h
theorem onConsB_inv {α:Type} {l:Blocks} {f:List AV→Blocks→Option α} {r:α} (h:onConsB l f=some r):∃ x t,l=x::t∧f x t=some r:=by
 unfold onConsB at h
 split at h
 ·exact ⟨_,_,rfl,h⟩
 ·cases h
theorem normLike_inv {α:Type} {o v:AV} {k:AV→Option α} {r:α} (h:normLike o v k=some r):k v=some r∧∀ (β:Type) (k2:AV→Option β),normLike o v k2=k2 v:=by
 cases o<;>simp only [normLike] at h ⊢
 case int kd n =>
  cases v<;>simp only [AV.onInt] at h ⊢ <;> try (cases h;done)
  rename_i k' m
  cases he:(k'==kd) with
  | false=>rw [he] at h;cases h
  | true =>
   have:k'=kd:=by simpa using he
   subst this
   rw [he] at h
   exact ⟨h,fun _ _=>rfl⟩
 case u8 b=>cases v<;>simp only [AV.onU8] at h ⊢ <;> first | (cases h;done) | exact ⟨h,fun _ _=>trivial⟩
 case bool b=>cases v<;>simp only [AV.onBool] at h ⊢ <;> first | (cases h;done) | exact ⟨h,fun _ _=>trivial⟩
 case str b=>cases v<;>simp only [AV.onStr] at h ⊢ <;> first | (cases h;done) | exact ⟨h,fun _ _=>trivial⟩
 case bs b=>cases v<;>simp only [AV.onBs] at h ⊢ <;> first | (cases h;done) | exact ⟨h,fun _ _=>trivial⟩
 case sl z b =>
  cases v<;>simp only [AV.onSl] at h ⊢ <;> try (cases h;done)
  rename_i z' l
  cases he:Nat.beq z' z with
  | false=>rw [he] at h;cases h
  | true =>
   have:=Nat.eq_of_beq_eq_true he
   subst this
   rw [he] at h
   exact ⟨h,fun _ _=>rfl⟩
 all_goals exact ⟨h,fun _ _=>trivial⟩
theorem normLikes_inv {α:Type}:∀ {os l:List AV} {k:List AV→Option α} {r:α},normLikes os l k=some r→k l=some r∧os.length=l.length∧∀ (β:Type) (k2:List AV→Option β),normLikes os l k2=k2 l
 | [],l,k,r,h=>by obtain ⟨rfl,h⟩:=onNil_inv h;exact ⟨h,rfl,fun _ _=>rfl⟩
 | o::os,l,k,r,h=>by
  simp only [normLikes] at h
  obtain ⟨x,t,rfl,h1⟩:=onCons_inv h
  obtain ⟨h2,d2⟩:=normLike_inv h1
  obtain ⟨h3,e3,d3⟩:=normLikes_inv (k:=fun r'=>k (x::r')) h2
  exact ⟨h3,by simp [e3],fun β k2=>by simp only [normLikes,onCons];rw [d2,d3]⟩
theorem pickP_inv {α:Type}:∀ {l:List Nat} {n:Nat} {f:Nat→Option α} {r:α},pickP l n f=some r→∃ o,l[n]? = some o∧f o=some r
 | [],n,f,r,h=>by cases h
 | o::l,n,f,r,h=>by
  simp only [pickP,sel] at h
  cases n with
  | zero=>exact ⟨o,rfl,h⟩
  | succ n =>
   have hb:Nat.beq (n+1) 0=false:=rfl
   rw [hb] at h
   obtain ⟨o',h1,h2⟩:=pickP_inv h
   exact ⟨o',by simpa using h1,h2⟩
theorem doBinC_inv {op:BinOp} {x y v:AV} (h:doBinC op x y=some (true,v)):doBin op x y=some v:=by
 have hmap:∀ {o:Option AV},(o.map fun v=>(true,v))=some (true,v)→o=some v:=fun {o} h=>by
  cases o with
  | none=>cases h
  | some w=>cases h;rfl
 have hints:∀ {f:IntKind→Int→Int→Bool} {gg:IntKind→Int→Int→AV},intsOf x y (fun k n m=>some (f k n m,gg k n m))=some (true,v)→intsOf x y (fun k n m=>chk (f k n m) (some (gg k n m)))=some v:=by
  intro f gg h
  unfold intsOf at h ⊢
  split at h
  ·obtain ⟨hb,h⟩:=bif_inv h
   rw [hb]
   simp only [Option.some.injEq,Prod.mk.injEq] at h
   simp only [h.1,h.2,chk,cond_true]
  ·simp only [Option.some.injEq,Prod.mk.injEq] at h
   simp only [h.1,h.2,chk,cond_true]
  ·cases h
 cases op<;>simp only [doBinC] at h<;>first | exact hmap h | exact hints h | skip
 ·split at h
  ·simp only [Option.some.injEq,Prod.mk.injEq] at h
   simp only [doBin,h.1,h.2,chk,cond_true]
  ·exact hmap h
 all_goals
  split at h
  ·rename_i hm
   simp only [Option.some.injEq,Prod.mk.injEq] at h
   simp only [doBin,hm,h.1,h.2,chk,cond_true]
  ·rename_i hm
   simp only [Option.some.injEq,Prod.mk.injEq] at h
   simp only [doBin,hm,h.1,h.2,chk,cond_true]
  ·cases h
theorem doBinTC_inv {i:TI} {op:BinOp} {x y v:AV} (h:doBinTC i op x y=some (true,v)):doBinT i op x y=some v:=by
 cases x<;>simp only [doBinTC,doBinT] at h ⊢ <;> try (first | exact doBinC_inv h | (cases h;done))
 ·cases hk:i.kind<;>rw [hk] at h<;>simp only at h ⊢ <;> first | exact doBinC_inv h | (cases h;done)
 ·cases he:i.eqc with
  | nil=>rw [he] at h;cases h
  | cons c r =>
   rw [he] at h
   simp only at h ⊢
   obtain ⟨hb,h⟩:=bif_inv h
   rw [hb]
   exact doBinC_inv h
theorem placeL_eq:∀ (cs:List AV) (off:Nat) (n:List AV),off+n.length≤cs.length→placeL cs off n=place cs off n
 | [],off,n,h=>by
  have hn:n.length=0:=by simp only [List.length_nil] at h;omega
  have:n=[]:=List.eq_nil_of_length_eq_zero hn
  subst this;simp [placeL,place]
 | c::cs,0,n,h=>by
  cases n with
  | nil=>simp [placeL,place]
  | cons x r =>
   have:=placeL_eq cs 0 r (by simp at h;omega)
   simp only [placeL,this,place,List.take_zero,List.nil_append,Nat.zero_add,List.length_cons,List.drop_succ_cons,List.cons_append]
 | c::cs,k+1,n,h=>by
  have:=placeL_eq cs k n (by simp at h;omega)
  simp only [placeL,this,place,List.take_succ_cons,List.cons_append]
  rw [show k+1+n.length=(k+n.length)+1 by omega,List.drop_succ_cons]
theorem flat_get {sz:Nat}:∀ {els:List AV},(∀ x∈els,x.cells.length=sz)→∀ {n:Nat} {x:AV},els[n]? = some x→∀ {j:Nat} {c:AV},x.cells[j]? = some c→(els.flatMap AV.cells)[n*sz+j]? = some c
 | [],_,n,x,h,_,_,_=>by simp at h
 | y::r,hs,n,x,h,j,c,hj=>by
  have hy:=hs y (by simp)
  rw [List.flatMap_cons]
  cases n with
  | zero =>
   simp at h
   subst h
   have:j<y.cells.length:=(List.getElem?_eq_some_iff.1 hj).1
   rw [Nat.zero_mul,Nat.zero_add,List.getElem?_append_left this]
   exact hj
  | succ n =>
   simp at h
   have ih:=flat_get (fun z hz=>hs z (by simp [hz])) h hj
   rw [List.getElem?_append_right (by rw [hy,Nat.add_mul];omega)]
   rw [show (n+1)*sz+j-y.cells.length=n*sz+j by rw [hy,Nat.add_mul];omega]
   exact ih
theorem flat_length {sz:Nat}:∀ {els:List AV},(∀ x∈els,x.cells.length=sz)→(els.flatMap AV.cells).length=els.length*sz
 | [],_=>by simp
 | x::r,h=>by
  rw [List.flatMap_cons,List.length_append,flat_length fun y hy=>h y (by simp [hy]),h x (by simp),List.length_cons,Nat.add_mul]
  omega
theorem norm1_cell {α:Type} {c:CT} {v:AV} {k:AV→Option α} {r:α} (h:norm1 c v k=some r):v.cells=[v]:=by
 cases v<;>first | rfl | (cases c<;>simp [norm1,AV.onInt,AV.onU8,AV.onBool,AV.onStr,AV.onBs,AV.onSl] at h)
theorem norm_cell {α:Type} {i:TI} {v:AV} {k:AV→Option α} {r:α} (h:norm i v k=some r) (ha:isAggK i.kind=false):v.cells=[v]:=by
 unfold norm at h
 rw [ha] at h
 simp only at h
 split at h
 ·exact norm1_cell h
 ·cases h
theorem norm_cts {α:Type} {i:TI} {v:AV} {k:AV→Option α} {r:α} (h:norm i v k=some r):match v with | .ownB _=>False | .ownL _=>False | _=>True:=by
 cases v<;>try trivial
 all_goals
  unfold norm at h
  split at h
  ·simp [AV.onAgg] at h
  ·split at h
   ·rename_i c _
    cases c<;>simp [norm1,AV.onInt,AV.onU8,AV.onBool,AV.onStr,AV.onBs,AV.onSl] at h
   ·cases h
end Go.Abs
