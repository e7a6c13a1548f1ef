/- One operation of a frame. -/
import Derived.Test.YtmipfdjcnkljnaaAbsLoc
namespace Go.Abs
set_option linter.unusedVariables false
structure Inv (n:Nat) (B:Nat) (M:Nat→Prop) (w0:World) (p0:Prot) (w:World) (p:Prot) (g:Nat→Value) (a:Act) (fr:Fr):Prop where
 s:SInv B M w0 p0 w p g fr.st
 defers:a.defers=[]
 size:a.tmps.size=n
 slots:∀ t,RepV w p g (used fr.st) (a.tmps.getD t undef) (fr.slots t)
section
variable {P:Program} {n B:Nat} {M:Nat→Prop} {w0:World} {p0:Prot} {w:World} {p:Prot} {g:Nat→Value} {a:Act} {fr:Fr} {E:Env}
theorem evalO_rep (hG:GlobOK E w p) (h:∀ t,RepV w p g (used fr.st) (a.tmps.getD t undef) (fr.slots t)):∀ {x:Operand} {v:AV},evalO E fr x=some v→RepV w p g (used fr.st) (a.eval x) v
 | .tmp t,v,hx=>by simp only [evalO] at hx;cases hx;exact h t
 | .const c,v,hx=>ofVal_rep hx
 | .global q,v,hx=>by
  simp only [evalO] at hx
  cases hq:E.glob q with
  | none=>rw [hq] at hx;cases hx
  | some cs=>rw [hq] at hx;cases hx;exact (hG q cs hq).v
 | .func f,v,hx=>by simp only [evalO] at hx;cases hx;exact RepI.v .fn
theorem evalAll_rep (hG:GlobOK E w p) (h:∀ t,RepV w p g (used fr.st) (a.tmps.getD t undef) (fr.slots t)):∀ {xs:List Operand} {vs:List AV},evalAll E fr xs=some vs→Cells (RepV w p g (used fr.st)) (xs.map a.eval) vs
 | [],vs,hx=>by cases hx;exact .nil
 | x::xs,vs,hx=>by
  simp only [evalAll] at hx
  split at hx
  ·rename_i b l h1 h2
   cases hx
   exact .cons (evalO_rep hG h h1) (evalAll_rep hG h h2)
  ·cases hx
theorem evalParts_rep (hG:GlobOK E w p) (h:∀ t,RepV w p g (used fr.st) (a.tmps.getD t undef) (fr.slots t)):∀ {xs:List (Nat×Operand)} {vs:List (Nat×AV)},evalParts E fr xs=some vs→PartsRep w p g (used fr.st) (xs.map fun x=>(x.1,a.eval x.2)) vs
 | [],vs,hx=>by cases hx;exact .nil
 | (i,x)::xs,vs,hx=>by
  simp only [evalParts] at hx
  split at hx
  ·rename_i b l h1 h2
   cases hx
   exact .cons (evalO_rep hG h h1) (evalParts_rep hG h h2)
  ·cases hx
def OpOK (P:Program) (B:Nat) (M:Nat→Prop) (w0:World) (p0:Prot) (w:World) (p:Prot) (g:Nat→Value) (a:Act) (o:Oper) (st:Nat→Blk) (v:AV) (st':Nat→Blk):Prop :=
 ∀ (K:Act→World→Prop) (Q:Exit→Act→World→Prop),(∀ v' w' p' g',SInv B M w0 p0 w' p' g' st'→Mono w p g (used st) w' p' g' (used st')→RepV w' p' g' (used st') v' v→K (a.put o.dst v') w')→o.wp P a w K Q
theorem OpOK.good {o:Oper} {st st':Nat→Blk} {v:AV} {s:Sem Value} (he:execOp a.eval o=(do pure (.value (← s)))) (hg:Good B M w0 p0 w p g st v st' (s.run P w)):OpOK P B M w0 p0 w p g a o st v st':=by
 intro K Q hK
 obtain ⟨v',w',p',g',hr,hs,hm,hv⟩:=hg
 unfold Oper.wp
 have e:(execOp a.eval o).run P w = .ok (.value v') w':=by rw [he];simp [hr]
 rw [e,Oper.upon_value]
 exact hK v' w' p' g' hs hm hv
theorem OpOK.goodU {o:Oper} {st st':Nat→Blk} {s:Sem Unit} (he:execOp a.eval o=(do s;pure .skip)) (hg:GoodU B M w0 p0 w p g st st' (s.run P w)):OpOK P B M w0 p0 w p g a o st .undef st':=by
 intro K Q hK
 obtain ⟨w',p',g',hr,hs,hm⟩:=hg
 unfold Oper.wp
 have e:(execOp a.eval o).run P w = .ok .skip w':=by rw [he];simp [hr]
 rw [e,Oper.upon_skip]
 exact hK undef w' p' g' hs hm (.inl rfl)
theorem OpOK.pure {o:Oper} {st:Nat→Blk} {v:AV} {x:Value} (he:(execOp a.eval o).run P w = .ok (.value x) w) (h:SInv B M w0 p0 w p g st) (hv:RepV w p g (used st) x v):OpOK P B M w0 p0 w p g a o st v st:=by
 intro K Q hK
 unfold Oper.wp
 rw [he,Oper.upon_value]
 exact hK x w p g h Mono.refl hv
theorem sim_mmFold {u:Nat→Prop} {mx:Bool}:∀ {vs:List AV} {xs:List Value} {x:Value} {v0 v:AV},RepV w p g u x v0→Cells (RepV w p g u) xs vs→mmFold mx v0 vs=some v →
  ∃ v',(xs.foldlM (match mx with | true=>Builtin.max2 | false=>Builtin.min2) x:Sem Value).run P w = .ok v' w∧RepI w p v' v
 | [],xs,x,v0,v,hx,hxs,h=>by
  have:=hxs.nil_iff
  subst this
  simp only [mmFold] at h
  split at h
  ·rename_i k n
   cases h
   obtain ⟨rfl,hk⟩:=hx.int
   exact ⟨_,rfl,.int hk⟩
  ·cases h
 | y::vs,xs,x,v0,v,hx,hxs,h=>by
  obtain ⟨y',xs',rfl,h1,h2⟩:=hxs.uncons
  simp only [mmFold] at h
  obtain ⟨z,hz,h3⟩:=bind_inv h
  unfold mm2 at hz
  split at hz
  ·rename_i a n b m
   obtain ⟨hab,hz2⟩:=bif_inv hz
   cases hz2
   obtain ⟨rfl,hk⟩:=hx.int
   obtain ⟨rfl,hk'⟩:=h1.int
   cases mx
   ·obtain ⟨v',e1,e2⟩:=sim_mmFold (mx:=false) (x := .int a (Kerb.imin n m)) (RepI.v (.int hk)) h2 h3
    refine ⟨v',?_,e2⟩
    simp only [List.foldlM_cons]
    simpa [Builtin.min2,Kerb.imin] using e1
   ·obtain ⟨v',e1,e2⟩:=sim_mmFold (mx:=true) (x := .int a (Kerb.imax n m)) (RepI.v (.int hk)) h2 h3
    refine ⟨v',?_,e2⟩
    simp only [List.foldlM_cons]
    simpa [Builtin.max2,Kerb.imax] using e1
  ·cases hz
theorem sim_mmAll {u:Nat→Prop} {mx:Bool} {vs:List AV} {xs:List Value} {v:AV} (hxs:Cells (RepV w p g u) xs vs) (h:mmAll mx vs=some v) :
  ∃ v', (match xs with | [] => stuck (match mx with | true => "max: at least one argument expected" | false => "min: at least one argument expected") | x :: rest => rest.foldlM (match mx with | true => Builtin.max2 | false => Builtin.min2) x : Sem Value).run P w = .ok v' w ∧ RepI w p v' v := by
 cases vs with
 | nil=>cases h
 | cons y r =>
  obtain ⟨x,xs',rfl,h1,h2⟩:=hxs.uncons
  exact sim_mmFold h1 h2 h
theorem bool_val {u:Nat→Prop} {s:Bool} {b:AV} (hx:RepV w p g u (.bool s) b) (hc:b.isCell=true):b = .bool s:=by
 rcases hx with rfl | (hx | ⟨_,_,hx,_⟩) | ⟨_,_,hx,_⟩
 ·cases hc
 ·generalize hv:Value.bool s=v at hx
  cases hx with
  | imm h=>subst hv;cases h;rfl
  | ptr _ _=>cases hv
  | eptr _ _=>cases hv
  | row _ hs=>obtain ⟨_,_,_,hs⟩:=hs;rw [hs] at hv;cases hv
  | psl=>cases hv
  | pptr=>cases hv
  | pre=>cases hv
  | suf=>cases hv
  | clo=>cases hv
 ·cases hx
 ·cases hx
theorem sim_binT {t:Nat} {i:TI} (hi:mkTI P t=some i) {u:Nat→Prop} {op:BinOp} {x y:Value} {b c v:AV} (hx:RepV w p g u x b) (hy:RepV w p g u y c) (hk:doBinT i op b c=some v) (o1 o2:Operand) :
  ∃ v',(do eqGuard op t o1 o2 x y;binOp op t x y:Sem Value).run P w = .ok v' w∧RepI w p v' v:=by
 obtain ⟨info,z,a1,a2,a3,a4,a5,a6,a7,a8,a9,_⟩:=mkTI_info hi
 have key:doBin op b c=some v→b.isCell=true→(∀ s r,x = .bool s→y = .bool r→P.underlying t=some .bool)→∃ v',(do eqGuard op t o1 o2 x y;binOp op t x y:Sem Value).run P w = .ok v' w∧RepI w p v' v:=by
  intro h1 h2 h3
  obtain ⟨v',e1,e2⟩:=sim_bin (P:=P) (t:=t) hx hy h1 h2 h3
  obtain ⟨n1,n2⟩:=repV_notAgg hx h2
  exact ⟨v',by simp [eqGuard_cell n1 n2,e1],e2⟩
 unfold doBinT at hk
 split at hk
 ·rename_i cs
  split at hk
  ·cases hk
  ·rename_i c1 r1 hq
   obtain ⟨hc,hk1⟩:=bif_inv hk
   simp only [Bool.and_eq_true] at hc
   exact sim_eqAgg hi hx hy (by rw [hq];exact hc.1) (by rw [hq];simp) hc.2 hk1 o1 o2
 ·split at hk
  ·rename_i hkd
   rw [hkd] at a8
   exact key hk rfl fun _ _ _ _=>kind_bool a8
  ·cases hk
 ·cases hk
 ·cases hk
 ·rename_i h1 h2 h3 h4
  have hcell:b.isCell=true:=by
   cases b<;>first | rfl | exact absurd rfl (h1 _) | exact absurd rfl (h2 _) | exact absurd rfl h3 | exact absurd rfl (h4 _) | (simp [doBin] at hk;done) | skip
   all_goals (cases op<;>simp [doBin,intsOf,cellEq] at hk)
  refine key hk hcell fun s r hs _=> ?_
  subst hs
  exact absurd (bool_val hx hcell) (h2 s)
theorem sim_inl {α:Type} {rts:Nat→Option (List Nat)} (hC:CallOK P E rts) (hG:GlobOK E w p) (h:SInv B M w0 p0 w p g fr.st) {f:Nat} {run:InlR} (hf:E.inl f=some run) {kb:Nat} {vs:List AV} {xs:List Value} (hx:Cells (RepV w p g (used fr.st)) xs vs) {k:Ret α} {r:α} (hk:run.run α kb vs fr.st k=some r) :
  ∃ v st' fp,k v st' fp=some r∧CallsX P f xs.toArray w fun x w'=>∃ p' g',SInv B M w0 p0 w' p' g' st'∧Mono w p g (used fr.st) w' p' g' (used st')∧RepV w' p' g' (used st') x v:=by
 obtain ⟨v,st',fp,hk1,l⟩:=(run.loc kb vs).go hk
 exact ⟨v,st',fp,hk1,hC.inl f run hf h hG hx (l.here _ trip)⟩
theorem ptrs_rep {u:Nat→Prop}:∀ {vs:List AV} {xs:List Value} {l:List (Nat×Nat)},Cells (RepV w p g u) xs vs→ptrs vs=some l→xs.length=l.length∧∀ (j k off:Nat),l[j]? = some (k,off)→u k∧∃ β,g k = .pointer (some ⟨β,0,none⟩)∧xs[j]? = some (.pointer (some ⟨β,off,none⟩))
 | [],xs,l,hx,hl=>by
  cases hl
  rw [hx.nil_iff]
  exact ⟨rfl,fun j k off hj=>by simp at hj⟩
 | v::vs,xs,l,hx,hl=>by
  obtain ⟨x,xs',rfl,h1,h2⟩:=hx.uncons
  cases v<;>simp only [ptrs] at hl<;>try (cases hl;done)
  obtain ⟨l',hl',rfl⟩:=Option.map_eq_some_iff.1 hl
  obtain ⟨e1,e2⟩:=ptrs_rep h2 hl'
  refine ⟨by simp [e1],fun j k off hj=> ?_⟩
  cases j with
  | zero =>
   simp at hj
   obtain ⟨rfl,rfl⟩:=hj
   obtain ⟨hu,β,hg,e⟩:=h1.ptr
   exact ⟨hu,β,hg,by simp [e]⟩
  | succ j =>
   simp at hj
   simpa using e2 j k off hj
theorem sim_op {α:Type} {rts:Nat→Option (List Nat)} (hty:∀ t i,E.ty t=some i→mkTI P t=some i) (hC:CallOK P E rts) (hG:GlobOK E w p) (h:SInv B M w0 p0 w p g fr.st) (hsl:∀ t,RepV w p g (used fr.st) (a.tmps.getD t undef) (fr.slots t)) {o:Oper} {k:Ret α} {r:α}
  (hk:doOp E rts fr o k=some r):∃ v st' fp,k v st' fp=some r∧OpOK P B M w0 p0 w p g a o fr.st v st':=by
 unfold doOp at hk
 have ev:∀ {x:Operand} {v:AV},evalO E fr x=some v→RepV w p g (used fr.st) (a.eval x) v:=evalO_rep hG hsl
 split at hk
 ·-- move
  rename_i x hop
  obtain ⟨v,hv,hk1⟩:=bind_inv hk
  exact ⟨_,_,_,hk1,OpOK.pure (x:=a.eval x) (by simp only [execOp,hop];rfl) h (ev hv)⟩
 ·rename_i x hop
  obtain ⟨v,hv,hk1⟩:=bind_inv hk
  exact ⟨_,_,_,hk1,OpOK.pure (x:=a.eval x) (by simp only [execOp,hop];rfl) h (ev hv)⟩
 ·-- pick
  rename_i c x y hop
  obtain ⟨v,hv,hk1⟩:=bind_inv hk
  obtain ⟨t,rfl,hk2⟩:=onBool_inv hk1
  have hc:=(ev hv).bool
  cases t with
  | true =>
   obtain ⟨v,hv,hk3⟩:=bind_inv hk2
   exact ⟨_,_,_,hk3,OpOK.pure (x:=a.eval x) (by simp [execOp,hop,hc,asBool]) h (ev hv)⟩
  | false =>
   obtain ⟨v,hv,hk3⟩:=bind_inv hk2
   exact ⟨_,_,_,hk3,OpOK.pure (x:=a.eval y) (by simp [execOp,hop,hc,asBool]) h (ev hv)⟩
 ·-- alloc
  rename_i e hop
  obtain ⟨i,hi,hk1⟩:=bind_inv hk
  split at hk1
  ·rename_i t hd
   obtain ⟨v,st',fp,hk2,hg⟩:=sim_alloc (hty _ _ hi) h hk1
   exact ⟨_,_,_,hk2,OpOK.good (by simp only [execOp,hop]) hg⟩
  ·cases hk1
 ·-- box
  rename_i e x hop
  obtain ⟨i,hi,hk1⟩:=bind_inv hk
  obtain ⟨v,hv,hk2⟩:=bind_inv hk1
  split at hk2
  ·rename_i t hd
   obtain ⟨v,st',fp,hk3,hg⟩:=sim_box (e:=e) h (ev hv) hk2
   exact ⟨_,_,_,hk3,OpOK.good (by simp only [execOp,hop]) hg⟩
  ·cases hk2
 ·-- build
  rename_i t parts hop
  obtain ⟨i,hi,hk1⟩:=bind_inv hk
  obtain ⟨ps,hps,hk2⟩:=bind_inv hk1
  obtain ⟨v,fp,hk3,hg⟩:=sim_build hty (hty _ _ hi) h (evalParts_rep hG hsl hps) hk2
  refine ⟨_,_,_,hk3,OpOK.good (s:=Instr.build t (parts.map fun x=>(x.1,a.eval x.2))) (by simp only [execOp,hop]) ?_⟩
  have:(parts.map fun x=>(x.1,a.eval x.2))=(parts.toList.map fun x=>(x.1,a.eval x.2)).toArray:=by apply Array.toList_inj.1;rw [Array.toList_map]
  rw [this]
  exact hg
 ·-- buildSlice
  rename_i t len parts hop
  obtain ⟨i,hi,hk1⟩:=bind_inv hk
  obtain ⟨ps,hps,hk2⟩:=bind_inv hk1
  have hb:∃ v st' fp,k v st' fp=some r∧Good B M w0 p0 w p g fr.st v st' ((Instr.buildSlice t len (parts.toList.map fun x=>(x.1,a.eval x.2)).toArray).run P w):=by
   split at hk2
   ·exact sim_buildOwn hty (hty _ _ hi) h (evalParts_rep hG hsl hps) hk2
   ·exact sim_buildSlice hty (hty _ _ hi) h (evalParts_rep hG hsl hps) hk2
  obtain ⟨v,st',fp,hk3,hg⟩:=hb
  refine ⟨_,_,_,hk3,OpOK.good (s:=Instr.buildSlice t len (parts.map fun x=>(x.1,a.eval x.2))) (by simp only [execOp,hop]) ?_⟩
  have:(parts.map fun x=>(x.1,a.eval x.2))=(parts.toList.map fun x=>(x.1,a.eval x.2)).toArray:=by apply Array.toList_inj.1;rw [Array.toList_map]
  rw [this]
  exact hg
 ·-- makeSlice
  rename_i t x y hop
  obtain ⟨i,hi,hk1⟩:=bind_inv hk
  obtain ⟨v,hv,hk2⟩:=bind_inv hk1
  obtain ⟨v2,hv2,hk3⟩:=bind_inv hk2
  split at hk3
  ·rename_i d hd
   obtain ⟨v',st',fp,hk4,hg⟩:=sim_make (hty _ _ hi) h (ev hv) (ev hv2) hk3
   exact ⟨_,_,_,hk4,OpOK.good (by simp only [execOp,hop]) hg⟩
  ·cases hk3
 ·-- load
  rename_i t x hop
  obtain ⟨i,hi,hk1⟩:=bind_inv hk
  obtain ⟨v,hv,hk2⟩:=bind_inv hk1
  obtain ⟨v',fp,hk3,hg⟩:=sim_doLoad hty (hty _ _ hi) h (ev hv) hk2
  exact ⟨_,_,_,hk3,OpOK.good (by simp only [execOp,hop]) hg⟩
 ·-- store
  rename_i t x y hop
  obtain ⟨i,hi,hk1⟩:=bind_inv hk
  obtain ⟨v,hv,hk2⟩:=bind_inv hk1
  obtain ⟨v2,hv2,hk3⟩:=bind_inv hk2
  obtain ⟨st',fp,hk4,hg⟩:=sim_doStore hty (hty _ _ hi) h (ev hv) (ev hv2) hk3
  exact ⟨_,_,_,hk4,OpOK.goodU (by simp only [execOp,hop]) hg⟩
 ·-- nilCheck
  rename_i x hop
  obtain ⟨v,hv,hk1⟩:=bind_inv hk
  have hr:=ev hv
  split at hk1
  ·obtain ⟨_,β,hg,e⟩:=hr.ptr
   refine ⟨_,_,_,hk1,OpOK.pure (x:=a.eval x) ?_ h hr⟩
   simp only [execOp,hop];rw [e];rfl
  ·have e:∃ b,a.eval x = .pointer (some b):=by
    have hi:=hr.rptr
    generalize a.eval x=y at hi
    cases hi;exact ⟨_,rfl⟩
   obtain ⟨b,e⟩:=e
   refine ⟨_,_,_,hk1,OpOK.pure (x:=a.eval x) ?_ h hr⟩
   simp only [execOp,hop];rw [e];rfl
  ·obtain ⟨_,β,hg,e⟩:=hr.eptr
   refine ⟨_,_,_,hk1,OpOK.pure (x:=a.eval x) ?_ h hr⟩
   simp only [execOp,hop];rw [e];rfl
  ·cases hk1
 ·-- binOp
  rename_i op t x y e hop
  obtain ⟨i,hi,hk1⟩:=bind_inv hk
  obtain ⟨v,hv,hk2⟩:=bind_inv hk1
  obtain ⟨v2,hv2,hk3⟩:=bind_inv hk2
  obtain ⟨⟨cb,c⟩,hc,hk4⟩:=bind_inv hk3
  obtain ⟨hcb,hk4⟩:=chk_inv hk4
  simp only at hcb hk4
  subst hcb
  replace hc:=doBinTC_inv hc
  refine ⟨_,_,_,hk4,OpOK.good (s:=do eqGuard op t x y (a.eval x) (a.eval y);binOp op t (a.eval x) (a.eval y)) (by simp only [execOp,hop]) ?_⟩
  obtain ⟨x',e1,e2⟩:=sim_binT (hty _ _ hi) (ev hv) (ev hv2) hc x y
  exact Good.same h e1 e2.v
 ·-- unOp
  rename_i op t x hop
  obtain ⟨v,hv,hk1⟩:=bind_inv hk
  obtain ⟨c,hc,hk2⟩:=bind_inv hk1
  obtain ⟨x',e1,e2⟩:=sim_un (P:=P) (ev hv) hc
  exact ⟨_,_,_,hk2,OpOK.good (by simp only [execOp,hop]) (Good.same h e1 e2.v)⟩
 ·-- convert
  rename_i s d x hop
  obtain ⟨si,hsi,hk1⟩:=bind_inv hk
  obtain ⟨di,hdi,hk2⟩:=bind_inv hk1
  obtain ⟨v,hv,hk3⟩:=bind_inv hk2
  obtain ⟨v',fp,hk4,hg⟩:=sim_convert (hty _ _ hsi) (hty _ _ hdi) h (ev hv) hk3
  exact ⟨_,_,_,hk4,OpOK.good (by simp only [execOp,hop]) hg⟩
 ·-- slice
  rename_i t x lo hi mx hop
  obtain ⟨i,hti,hk1⟩:=bind_inv hk
  obtain ⟨v,hv,hk2⟩:=bind_inv hk1
  have hopt:∀ (y:Option Operand),y.map (evalO E fr)≠some none→OptRep w p g (used fr.st) (y.map a.eval) ((y.map (evalO E fr)).bind id):=fun y hy=>by
   cases y with
   | none=>exact .inl ⟨rfl,rfl⟩
   | some y =>
    cases hy':evalO E fr y with
    | none=>exact absurd (by simp [hy']) hy
    | some b=>exact .inr ⟨b,a.eval y,by simp [hy'],rfl,ev hy'⟩
  split at hk2
  ·cases hk2
  ·cases hk2
  ·cases hk2
  ·rename_i b' m' hhi hmm hlo
   cases hi with
   | none=>cases hhi
   | some hi =>
    cases mx with
    | none=>cases hmm
    | some mx =>
     have e1:evalO E fr hi=some b':=by simpa using hhi
     have e2:evalO E fr mx=some m':=by simpa using hmm
     obtain ⟨v',st',fp,hk3,hg⟩:=sim_slice3 hty (hty _ _ hti) h (ev hv) (hopt lo hlo) (ev e1) (ev e2) hk2
     exact ⟨_,_,_,hk3,OpOK.good (s:=Instr.sliceAt t (a.eval x) (lo.map a.eval) (some (a.eval hi)) (some (a.eval mx))) (by simp only [execOp,hop];rfl) hg⟩
  ·cases hk2
  ·rename_i hmm hlo hhi
   have hmx:mx=none:=by cases mx<;>simp_all
   subst hmx
   split at hk2
   ·obtain ⟨v',st',fp,hk3,hg⟩:=sim_view (hty _ _ hti) h (ev hv) (hopt lo hlo) (hopt hi hhi) hk2
    exact ⟨_,_,_,hk3,OpOK.good (s:=Instr.sliceAt t (a.eval x) (lo.map a.eval) (hi.map a.eval) none) (by simp only [execOp,hop];rfl) hg⟩
   ·obtain ⟨v',st',fp,hk3,hg⟩:=sim_slice hty (hty _ _ hti) h (ev hv) (hopt lo hlo) (hopt hi hhi) hk2
    exact ⟨_,_,_,hk3,OpOK.good (s:=Instr.sliceAt t (a.eval x) (lo.map a.eval) (hi.map a.eval) none) (by simp only [execOp,hop];rfl) hg⟩
 ·-- fieldAddr
  rename_i t x f hop
  obtain ⟨i,hi,hk1⟩:=bind_inv hk
  obtain ⟨q,hq,hk2⟩:=bind_inv hk1
  obtain ⟨v,hv,hk3⟩:=bind_inv hk2
  obtain ⟨v',fp,hk4,hg⟩:=sim_fieldAddr (hty _ _ hi) h hq (ev hv) hk3
  exact ⟨_,_,_,hk4,OpOK.good (by simp only [execOp,hop]) hg⟩
 ·-- field
  rename_i t x f hop
  obtain ⟨i,hi,hk1⟩:=bind_inv hk
  obtain ⟨q,hq,hk2⟩:=bind_inv hk1
  obtain ⟨fi,hfi,hk3⟩:=bind_inv hk2
  obtain ⟨v,hv,hk4⟩:=bind_inv hk3
  obtain ⟨v',fp,hk5,hg⟩:=sim_field (hty _ _ hi) h hq (hty _ _ hfi) (ev hv) hk4
  exact ⟨_,_,_,hk5,OpOK.good (by simp only [execOp,hop]) hg⟩
 ·-- indexAddr
  rename_i t x ix hop
  obtain ⟨i,hi,hk1⟩:=bind_inv hk
  obtain ⟨v,hv,hk2⟩:=bind_inv hk1
  obtain ⟨v2,hv2,hk3⟩:=bind_inv hk2
  obtain ⟨v',fp,hk4,hg⟩:=sim_indexAddr hty (hty _ _ hi) h (ev hv) (ev hv2) hk3
  exact ⟨_,_,_,hk4,OpOK.good (by simp only [execOp,hop]) hg⟩
 ·-- index
  rename_i t x ix hop
  obtain ⟨i,hi,hk1⟩:=bind_inv hk
  obtain ⟨v,hv,hk2⟩:=bind_inv hk1
  obtain ⟨v2,hv2,hk3⟩:=bind_inv hk2
  obtain ⟨v',fp,hk4,hg⟩:=sim_index (hty _ _ hi) h (ev hv) (ev hv2) hk3
  exact ⟨_,_,_,hk4,OpOK.good (by simp only [execOp,hop]) hg⟩
 ·-- makeFunc
  rename_i fn fs cs hop
  split at hk
  ·rename_i f
   obtain ⟨va,hva,hk1⟩:=bind_inv hk
   obtain ⟨vb,hvb,hk2⟩:=bind_inv hk1
   obtain ⟨pa,hpa,hk3⟩:=bind_inv hk2
   obtain ⟨pb,hpb,hk4⟩:=bind_inv hk3
   obtain ⟨l1,f1⟩:=ptrs_rep (evalAll_rep hG hsl hva) hpa
   obtain ⟨l2,f2⟩:=ptrs_rep (evalAll_rep hG hsl hvb) hpb
   refine ⟨_,_,_,hk4,OpOK.good (s:=Instr.makeFunc (.func f) (fs.map a.eval) (cs.map a.eval)) (by simp only [execOp,hop]) (Good.same h (v' := .func (.func f) (fs.map a.eval) (cs.map a.eval)) rfl (RepC.v (.clo (by simpa using l1) (by simpa using l2) (fun j k off hj=> ?_) (fun j k off hj=> ?_))))⟩
   ·simpa using f1 j k off hj
   ·simpa using f2 j k off hj
  ·cases hk
 ·-- extract
  rename_i x j hop
  obtain ⟨v,hv,hk1⟩:=bind_inv hk
  obtain ⟨vs,rfl,hk2⟩:=onTup_inv hk1
  split at hk2
  ·rename_i v hvj
   obtain ⟨arr,e,hc⟩:=(ev hv).tup
   obtain ⟨y,hy,hr⟩:=hc.get hvj
   refine ⟨_,_,_,hk2,OpOK.good (s:=Instr.extract (a.eval x) j) (by simp only [execOp,hop]) (Good.same (v':=y) h ?_ (.inr (.inl hr)))⟩
   have:arr[j]? = some y:=by simpa using hy
   rw [e];simp [Instr.extract,this]
  ·cases hk2
 ·-- call
  rename_i c hop
  split at hk
  ·-- len
   rename_i hcal
   obtain ⟨vs,hvs,hk1⟩:=bind_inv hk
   have hcs:=evalAll_rep hG hsl hvs
   split at hk1
   ·rename_i v ty hty'
    obtain ⟨i,hi,hk2⟩:=bind_inv hk1
    obtain ⟨x,xs',hx,hxr,hx0⟩:=hcs.uncons
    have hx1:=hx0.nil_iff
    subst hx1
    obtain ⟨v',fp,hk3,hg⟩:=sim_len (ty:=o.type) (hty _ _ hi) h hxr hk2
    refine ⟨_,_,_,hk3,OpOK.good (s:=Builtin.len_ c.argTypes o.type (c.args.map a.eval)) ?_ ?_⟩
    ·simp [execOp,hop,resolve,hcal,invoke,builtin]
    ·have e1:c.args.map a.eval = #[x]:=by apply Array.toList_inj.1;simp [hx]
     have e2:c.argTypes = #[ty]:=by apply Array.toList_inj.1;simp [hty']
     rw [e1,e2];exact hg
   ·cases hk1
  ·-- append
   rename_i hcal
   obtain ⟨vs,hvs,hk1⟩:=bind_inv hk
   have hcs:=evalAll_rep hG hsl hvs
   split at hk1
   ·rename_i s x ty tx t hty' hdst
    obtain ⟨i,hi,hk2⟩:=bind_inv hk1
    obtain ⟨xi,hxi,hk3⟩:=bind_inv hk2
    obtain ⟨x1,xs1,hx,hxr,hx0⟩:=hcs.uncons
    obtain ⟨x2,xs2,hx',hxr2,hx00⟩:=hx0.uncons
    have hx1:=hx00.nil_iff
    subst hx1
    subst hx'
    obtain ⟨info,z,a1,a2,a3,a4,a5,a6,a7,a8,a9,_⟩:=mkTI_info (hty _ _ hxi)
    have key:doAppend E fr (E.kb+t) i s x k=some r∧((∃ e',P.underlying tx=some (.slice e'))∨P.underlying tx=some .string):=by
     split at hk3
     ·rename_i e b hkd
      rw [hkd] at a8
      exact ⟨hk3,.inl ⟨e,(kind_slice a8).1⟩⟩
     ·rename_i hkd
      rw [hkd] at a8
      exact ⟨hk3,.inr (kind_str a8)⟩
     ·cases hk3
    obtain ⟨v',st',fp,hk4,hg⟩:=sim_append (rt:=o.type) hty (hty _ _ hi) h key.2 hxr hxr2 key.1
    refine ⟨_,_,_,hk4,OpOK.good (s:=Builtin.append_ c.argTypes o.type (c.args.map a.eval)) ?_ ?_⟩
    ·simp [execOp,hop,resolve,hcal,invoke,builtin]
    ·have e1:c.args.map a.eval = #[x1,x2]:=by apply Array.toList_inj.1;simp [hx]
     have e2:c.argTypes = #[ty,tx]:=by apply Array.toList_inj.1;simp [hty']
     rw [e1,e2];exact hg
   ·cases hk1
  ·-- min
   rename_i hcal
   obtain ⟨vs,hvs,hk1⟩:=bind_inv hk
   have hcs:=evalAll_rep hG hsl hvs
   obtain ⟨v,hv,hk2⟩:=bind_inv hk1
   obtain ⟨v',e1,e2⟩:=sim_mmAll (P:=P) (mx:=false) hcs hv
   refine ⟨_,_,_,hk2,OpOK.good (s:=Builtin.min_ c.argTypes o.type (c.args.map a.eval)) ?_ (Good.same h ?_ e2.v)⟩
   ·simp [execOp,hop,resolve,hcal,invoke,builtin]
   ·have e3:(c.args.map a.eval).toList=c.args.toList.map a.eval:=by simp
    simp only [Builtin.min_,e3]
    exact e1
  ·-- max
   rename_i hcal
   obtain ⟨vs,hvs,hk1⟩:=bind_inv hk
   have hcs:=evalAll_rep hG hsl hvs
   obtain ⟨v,hv,hk2⟩:=bind_inv hk1
   obtain ⟨v',e1,e2⟩:=sim_mmAll (P:=P) (mx:=true) hcs hv
   refine ⟨_,_,_,hk2,OpOK.good (s:=Builtin.max_ c.argTypes o.type (c.args.map a.eval)) ?_ (Good.same h ?_ e2.v)⟩
   ·simp [execOp,hop,resolve,hcal,invoke,builtin]
   ·have e3:(c.args.map a.eval).toList=c.args.toList.map a.eval:=by simp
    simp only [Builtin.max_,e3]
    exact e1
  ·-- a function
   rename_i f hcal
   obtain ⟨vs,hvs,hk1⟩:=bind_inv hk
   have hcs:=evalAll_rep hG hsl hvs
   split at hk1
   ·rename_i t hdst
    have hcl:∃ v st' fp,k v st' fp=some r∧CallsX P f (c.args.toList.map a.eval).toArray w fun x w'=>∃ p' g',SInv B M w0 p0 w' p' g' st'∧Mono w p g (used fr.st) w' p' g' (used st')∧RepV w' p' g' (used st') x v:=by
     split at hk1
     ·rename_i run hrun
      exact sim_inl hC hG h hrun hcs hk1
     ·exact sim_doCall hC hG h hcs hk1
    obtain ⟨v,st',fp,hk2,hcall⟩:=hcl
    refine ⟨_,_,_,hk2,?_⟩
    intro K Q hK
    have e1:(c.args.toList.map a.eval).toArray=c.args.map a.eval:=by apply Array.toList_inj.1;simp
    rw [e1] at hcall
    have e2:(execOp a.eval o).run P w=(callFunc f (c.args.map a.eval)).run P w:=by
     simp [execOp,hop,resolve,hcal,invoke,Deferred.ofValue,Act.eval]
    unfold Oper.wp
    rw [e2]
    rcases hcall with ⟨hr,hcl⟩ | ⟨x,w',hr,p',g',hs,hm,hv⟩
    ·rw [hr,Oper.upon_enter]
     refine hcl.mono ?_
     rintro e w' ⟨x,rfl,p',g',hs,hm,hv⟩
     exact hK x w' p' g' hs hm hv
    ·rw [hr,Oper.upon_value]
     exact hK x w' p' g' hs hm hv
   ·cases hk1
  ·-- a function in a slot
   rename_i s hcal
   obtain ⟨v0,hv0,hk0⟩:=bind_inv hk
   have hclo:∃ (f:Nat) (fs cs:List (Nat×Nat)) (xs us:Array Value),a.eval (.tmp s) = .func (.func f) xs us∧Cells (RepV w p g (used fr.st)) xs.toList (ofPtrs fs)∧Cells (RepV w p g (used fr.st)) us.toList (ofPtrs cs)∧((evalAll E fr c.args.toList).bind fun vs=>match o.dst with
     | some t=>match E.inl f with
      | some run=>run.run α ((E.kb+t+1)*100000) (ofPtrs fs++vs++ofPtrs cs) fr.st k
      | none=>match fs,cs with
       | [],[]=>doCall E fr rts (E.kb+t) f c.argTypes.toList vs k
       | _,_=>none
     | none=>none)=some r:=by
    rcases onClo_inv hk0 with ⟨f,rfl,hk00⟩ | ⟨f,fs,cs,rfl,hk00⟩
    ·exact ⟨f,[],[],#[],#[],(ev hv0).fn,.nil,.nil,hk00⟩
    ·obtain ⟨xs,us,e,c1,c2⟩:=(ev hv0).clo
     exact ⟨f,fs,cs,xs,us,e,c1,c2,hk00⟩
   obtain ⟨f,fs,cs,xs,us,hfn,c1,c2,hk00⟩:=hclo
   obtain ⟨vs,hvs,hk1⟩:=bind_inv hk00
   have hcs:=evalAll_rep hG hsl hvs
   split at hk1
   ·rename_i t hdst
    have hcl:∃ v st' fp,k v st' fp=some r∧CallsX P f (xs.toList++c.args.toList.map a.eval++us.toList).toArray w fun x w'=>∃ p' g',SInv B M w0 p0 w' p' g' st'∧Mono w p g (used fr.st) w' p' g' (used st')∧RepV w' p' g' (used st') x v:=by
     split at hk1
     ·rename_i run hrun
      exact sim_inl hC hG h hrun ((c1.append hcs).append c2) hk1
     ·split at hk1
      ·have h1:xs.toList=[]:=c1.nil_iff
       have h2:us.toList=[]:=c2.nil_iff
       rw [h1,h2,List.nil_append,List.append_nil]
       exact sim_doCall hC hG h hcs hk1
      ·cases hk1
    obtain ⟨v,st',fp,hk2,hcall⟩:=hcl
    refine ⟨_,_,_,hk2,?_⟩
    intro K Q hK
    have e1:(xs.toList++c.args.toList.map a.eval++us.toList).toArray=xs++c.args.map a.eval++us:=by apply Array.toList_inj.1;simp
    rw [e1] at hcall
    have e2:(execOp a.eval o).run P w=(callFunc f (xs++c.args.map a.eval++us)).run P w:=by
     simp [execOp,hop,resolve,hcal,invoke,Deferred.ofValue,hfn]
    unfold Oper.wp
    rw [e2]
    rcases hcall with ⟨hr,hcl⟩ | ⟨x,w',hr,p',g',hs,hm,hv⟩
    ·rw [hr,Oper.upon_enter]
     refine hcl.mono ?_
     rintro e w' ⟨x,rfl,p',g',hs,hm,hv⟩
     exact hK x w' p' g' hs hm hv
    ·rw [hr,Oper.upon_value]
     exact hK x w' p' g' hs hm hv
   ·cases hk1
  ·cases hk
 ·cases hk
end
end Go.Abs
