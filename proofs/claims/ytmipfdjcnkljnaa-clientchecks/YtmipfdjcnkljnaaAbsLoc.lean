/- What an operation looks at in the store, and what it changes. -/
import Derived.Test.YtmipfdjcnkljnaaAbsCall2
namespace Go.Abs
set_option linter.unusedVariables false
theorem merge_self {wr:List Nat} {s1 s2:Nat→Blk} (h:∀ x,x ∉ wr→s1 x=s2 x):merge wr s1 s2=s1:=by
 funext x
 unfold merge
 split
 ·rfl
 ·rename_i hx;exact (h x hx).symm
theorem Loc.here {A:Type} {T:StT A} {st:Nat→Blk} {a:A} {st':Nat→Blk} {fp:FP} (h:Loc T st a st' fp) (β:Type) (k:A→(Nat→Blk)→FP→Option β):T β st k=k a st' fp:=by
 rw [h.run st (fun _ _=>rfl) β k,merge_self h.eff]
theorem merge_nil {s1 s2:Nat→Blk}:merge [] s1 s2=s2:=by funext x;simp [merge]
theorem Loc.ret {A:Type} (a:A) (st:Nat→Blk):Loc (fun β s k=>k a s .none) st a st .none :=
 ⟨fun _ _=>rfl,fun st2 _ β k2=>by simp only [FP.none];rw [merge_nil]⟩
theorem Loc.reads {A:Type} {T:StT A} {st:Nat→Blk} {a:A} {rd:List Nat} (h:∀ st2,(∀ x∈rd,st2 x=st x)→∀ β k2,T β st2 k2=k2 a st2 ⟨rd,[]⟩):Loc T st a st ⟨rd,[]⟩ :=
 ⟨fun _ _=>rfl,fun st2 h2 β k2=>by rw [h st2 h2,merge_nil]⟩
theorem merge_upd1 {t:Nat} {st st2:Nat→Blk} {b:Blk}:merge [t] (upd st t b) st2=upd st2 t b:=by
 funext x
 unfold merge
 by_cases e:x=t
 ·subst e;simp [upd_same]
 ·simp [e,upd_ne _ _ e]
theorem Loc.set1 {A:Type} {T:StT A} {st:Nat→Blk} {a:A} {rd:List Nat} {t:Nat} {b:Blk} (h:∀ st2,(∀ x∈rd,st2 x=st x)→∀ β k2,T β st2 k2=k2 a (upd st2 t b) ⟨rd,[t]⟩):Loc T st a (upd st t b) ⟨rd,[t]⟩ :=
 ⟨fun x hx=>upd_ne _ _ (by simpa using hx),fun st2 h2 β k2=>by rw [h st2 h2,merge_upd1]⟩
theorem Loc.bind {A C:Type} {T:StT A} {U:A→StT C} {D:Type} {f:A→C→D} {st:Nat→Blk} {a:A} {st1:Nat→Blk} {f1:FP} {c:C} {st2:Nat→Blk} {f2:FP} (h1:Loc T st a st1 f1) (h2:Loc (U a) st1 c st2 f2) :
  Loc (fun β s k=>T β s fun a s1 f1=>U a β s1 fun c s2 f2=>k (f a c) s2 (f1.add f2)) st (f a c) st2 (f1.add f2):=by
 refine ⟨fun x hx=> ?_,fun s hs β k=> ?_⟩
 ·simp only [FP.add,List.mem_append,not_or] at hx
  rw [h2.eff x hx.2,h1.eff x hx.1]
 ·simp only [FP.add,List.mem_append] at hs
  rw [h1.run s (fun x hx=>hs x (.inl hx)),h2.run _ (fun x hx=> ?_)]
  ·congr 1
   funext x
   simp only [merge,FP.add,List.mem_append]
   by_cases e2:x∈f2.wr
   ·simp [e2]
   ·by_cases e1:x∈f1.wr
    ·simp [e1,e2,h2.eff x e2]
    ·simp [e1,e2]
  ·simp only [merge]
   split
   ·rfl
   ·rename_i e1;rw [hs x (.inr hx),h1.eff x e1]
theorem Loc.map {A D:Type} {T:StT A} {f:A→D} {st:Nat→Blk} {a:A} {st1:Nat→Blk} {f1:FP} (h1:Loc T st a st1 f1):Loc (fun β s k=>T β s fun a s1 f1=>k (f a) s1 f1) st (f a) st1 f1 :=
 ⟨h1.eff,fun s hs β k=>h1.run s hs β _⟩
theorem Loc.congr {A:Type} {T U:StT A} {st:Nat→Blk} {a:A} {st1:Nat→Blk} {f1:FP} (h1:Loc T st a st1 f1) (h:∀ s,(∀ x∈f1.rd,s x=st x)→∀ β k,U β s k=T β s k):Loc U st a st1 f1 :=
 ⟨h1.eff,fun s hs β k=>(h s hs β k).trans (h1.run s hs β k)⟩
theorem IsLoc.bind {A C D:Type} {T:StT A} {U:A→StT C} {f:A→C→D} (h1:IsLoc T) (h2:∀ a,IsLoc (U a)):IsLoc (fun β s k=>T β s fun a s1 f1=>U a β s1 fun c s2 f2=>k (f a c) s2 (f1.add f2)):=by
 refine ⟨fun {α st k r} hk=> ?_⟩
 obtain ⟨a,st1,f1,hk1,l1⟩:=h1.go hk
 obtain ⟨c,st2,f2,hk2,l2⟩:=(h2 a).go hk1
 exact ⟨_,_,_,hk2,l1.bind l2⟩
theorem IsLoc.map {A D:Type} {T:StT A} {f:A→D} (h1:IsLoc T):IsLoc (fun β s k=>T β s fun a s1 f1=>k (f a) s1 f1):=by
 refine ⟨fun {α st k r} hk=> ?_⟩
 obtain ⟨a,st1,f1,hk1,l1⟩:=h1.go hk
 exact ⟨_,_,_,hk1,l1.map⟩
theorem IsLoc.ret {A:Type} (a:A):IsLoc (fun β s k=>k a s .none):=⟨fun hk=>⟨_,_,_,hk,Loc.ret a _⟩⟩
theorem IsLoc.none {A:Type}:IsLoc (A:=A) (fun β s k=>Option.none):=⟨fun hk=>by cases hk⟩
theorem IsLoc.of_eq {A:Type} {T U:StT A} (h:IsLoc T) (e:∀ β s k,U β s k=T β s k):IsLoc U:=by
 refine ⟨fun {α st k r} hk=> ?_⟩
 rw [e] at hk
 obtain ⟨a,st1,f1,hk1,l1⟩:=h.go hk
 exact ⟨_,_,_,hk1,l1.congr fun s _ β k=>e β s k⟩
theorem IsLoc.cond {A:Type} {T:StT A} (b:Bool) (h:IsLoc T):IsLoc (fun β s k=>bif b then T β s k else Option.none):=by
 cases b
 ·exact IsLoc.none
 ·exact h
theorem IsLoc.chk {A:Type} {T:StT A} (b:Bool) (h:IsLoc T):IsLoc (fun β s k=>Abs.chk b (T β s k)):=IsLoc.cond b h
theorem IsLoc.obind {A B:Type} {T:B→StT A} (o:Option B) (h:∀ x,IsLoc (T x)):IsLoc (fun β s k=>o.bind fun x=>T x β s k):=by
 cases o with
 | none=>exact IsLoc.none
 | some x=>exact h x
theorem IsLoc.look {A:Type} {T:Blk→StT A} (b:Nat) (h:∀ x {α:Type} {st:Nat→Blk} {k:A→(Nat→Blk)→FP→Option α} {r:α},st b=x→T x α st k=some r→∃ a st' fp,k a st' fp=some r∧Loc (T x) st a st' fp∧b∈fp.rd):IsLoc (fun β s k=>T (s b) β s k):=by
 refine ⟨fun {α st k r} hk=> ?_⟩
 obtain ⟨a,st',fp,hk1,l,hb⟩:=h (st b) rfl hk
 exact ⟨_,_,_,hk1,l.congr fun s hs β k=>by simp only [hs b hb]⟩
theorem loc_out1 (c:CT) (v:AV):IsLoc (fun β s k=>out1 c v s k):=by
 unfold out1
 split
 case h_3 r' =>
  refine ⟨fun {α st k r} hk=> ?_⟩
  split at hk
  ·rename_i e l q hs
   refine ⟨_,_,_,hk,Loc.set1 fun s2 h2 β k2=> ?_⟩
   simp [h2 r' (by simp),hs]
  ·rename_i e z l q hs
   refine ⟨_,_,_,hk,Loc.set1 fun s2 h2 β k2=> ?_⟩
   simp [h2 r' (by simp),hs]
  ·cases hk
 all_goals first | exact IsLoc.ret _ | exact IsLoc.none
theorem loc_outCs:∀ (cs:List CT) (vs:List AV),IsLoc (fun β s k=>outCs cs vs s k)
 | [],[]=>(IsLoc.ret []).of_eq fun _ _ _=>rfl
 | c::cs,v::vs=>(IsLoc.bind (f:=fun a l=>a::l) (loc_out1 c v) fun _=>loc_outCs cs vs).of_eq fun _ _ _=>by simp only [outCs]
 | [],_::_=>IsLoc.none.of_eq fun _ _ _=>rfl
 | _::_,[]=>IsLoc.none.of_eq fun _ _ _=>rfl
theorem loc_out (i:TI) (v:AV):IsLoc (fun β s k=>out i v s k):=by
 unfold out
 split
 ·exact (loc_outCs _ _).map
 ·split
  ·exact loc_out1 _ _
  ·exact IsLoc.none
 ·exact IsLoc.none
theorem loc_outA (i:TI) (v:AV):IsLoc (fun β s k=>outA i v s k):=by
 unfold outA
 split
 ·exact IsLoc.ret _
 ·exact loc_out _ _
end Go.Abs
