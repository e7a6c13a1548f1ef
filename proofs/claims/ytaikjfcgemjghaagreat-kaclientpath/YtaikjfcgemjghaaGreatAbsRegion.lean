/- Operations one behind the other, with their guards. -/
import Derived.Test.YtaikjfcgemjghaaGreatAbsOp
import Derived.Orders
namespace Go.Abs
set_option linter.unusedVariables false
section
variable {α:Type} (E:Env) (rts:Nat→Option (List Nat))
def stepOp (n:Nat) (all:List Oper) (fr:Fr) (o:Oper) (k:Fr→FP→Option α):Option α :=
 match o.guard with
 | none=>doOp E rts fr o fun v st fp=>putSlot fr n o.dst v st fun fr'=>k fr' fp
 | some (j,want)=>match guardSlot all j with
  | none=>none
  | some g=>(fr.slots g).onGuard (fun b =>
   sel b
    (match want with
     | true=>doOp E rts ⟨upd fr.slots g (.bool true),fr.st⟩ o fun v st fp=>putSlot ⟨upd fr.slots g (.bool true),fr.st⟩ n o.dst v st fun fr'=>k fr' fp
     | false=>putSlot ⟨upd fr.slots g (.bool true),fr.st⟩ n o.dst (.tup []) fr.st fun fr'=>k fr' .none)
    (match want with
     | false=>doOp E rts ⟨upd fr.slots g (.bool false),fr.st⟩ o fun v st fp=>putSlot ⟨upd fr.slots g (.bool false),fr.st⟩ n o.dst v st fun fr'=>k fr' fp
     | true=>putSlot ⟨upd fr.slots g (.bool false),fr.st⟩ n o.dst (.tup []) fr.st fun fr'=>k fr' .none))
   (putSlot fr n o.dst (.tup []) fr.st fun fr'=>k fr' .none)
theorem execOps_cons {n:Nat} {all:List Oper} {o:Oper} {os:List Oper} {fr:Fr} {k:Fr→List FP→Option α} :
  execOps E rts n all (o::os) fr k=stepOp E rts n all fr o fun fr' fp=>execOps E rts n all os fr' fun fr2 fps=>k fr2 (fp::fps):=by
 simp only [execOps,stepOp]
 cases o.guard with
 | none=>rfl
 | some x =>
  obtain ⟨j,want⟩:=x
  simp only
  cases guardSlot all j with
  | none=>rfl
  | some g=>cases want<;>rfl
end
theorem undef_bool (b:Bool):undef ≠ .bool b:=by simp [undef]
section
variable {P:Program} {n B:Nat} {M:Nat→Prop} {w0:World} {p0:Prot} {w:World} {p:Prot} {g g0:Nat→Value} {a:Act} {fr:Fr} {E:Env} {rts:Nat→Option (List Nat)}
theorem getD_put {d t:Nat} {v:Value} (hd:d<a.tmps.size):(a.put (some d) v).tmps.getD t undef=if t=d then v else a.tmps.getD t undef:=by
 simp only [Act.put,Array.getD_eq_getD_getElem?,Array.getElem?_setIfInBounds]
 by_cases h:t=d
 ·subst h;simp [hd]
 ·rw [if_neg (Ne.symm h),if_neg h]
theorem Inv.put {w':World} {p':Prot} {g':Nat→Value} {st':Nat→Blk} {v:AV} {v':Value} {dst:Option Nat} {α:Type} {k:Fr→Option α} {r:α} (h:Inv n B M w0 p0 w p g a fr)
  (hs:SInv B M w0 p0 w' p' g' st') (hm:Mono w p g (used fr.st) w' p' g' (used st')) (hv:RepV w' p' g' (used st') v' v) (slots:Nat→AV) (hsl:∀ t,slots t=fr.slots t) (st0:Nat→Blk) {fr':Fr}
  (hk:putSlot ⟨slots,st0⟩ n dst v st' some=some fr'):Inv n B M w0 p0 w' p' g' (a.put dst v') fr':=by
 have hslots:slots=fr.slots:=funext hsl
 subst hslots
 unfold putSlot at hk
 cases dst with
 | none =>
  cases hk
  exact ⟨hs,h.defers,h.size,fun t=>hm.repV (h.slots t)⟩
 | some d =>
  obtain ⟨hd,hk1⟩:=bif_inv hk
  have hd':d<n:=by simpa using hd
  cases hk1
  refine ⟨hs,h.defers,by simp [Act.put,h.size],fun t=> ?_⟩
  rw [getD_put (by rw [h.size];exact hd')]
  by_cases e:t=d
  ·subst e;rw [if_pos rfl];simp only [upd_same];exact hv
  ·rw [if_neg e];simp only [upd_ne _ _ e];exact hm.repV (h.slots t)
theorem putSlot_cps {α:Type} {fr:Fr} {n:Nat} {d:Option Nat} {v:AV} {st:Nat→Blk} {k:Fr→Option α}:putSlot fr n d v st k=(putSlot fr n d v st some).bind k:=by
 unfold putSlot
 cases d with
 | none=>rfl
 | some t =>
  simp only
  cases Nat.blt t n<;>rfl
theorem putSlot_st {fr fr':Fr} {d:Option Nat} {v:AV} {st:Nat→Blk} (h:putSlot fr n d v st some=some fr'):fr'.st=st:=by
 unfold putSlot at h
 cases d with
 | none=>cases h;rfl
 | some t=>obtain ⟨_,h⟩:=bif_inv h;cases h;rfl
theorem upd_self {f:Nat→AV} {k:Nat} {v:AV} (h:f k=v) (t:Nat):upd f k v t=f t:=by
 by_cases e:t=k
 ·subst e;rw [upd_same,h]
 ·rw [upd_ne _ _ e]
theorem sim_stepOp {α:Type} {ops:Array Oper} (hty:∀ t i,E.ty t=some i→mkTI P t=some i) (hC:CallOK P E rts) (hG:GlobOK E w p) (h:Inv n B M w0 p0 w p g a fr) {o:Oper} {k:Fr→FP→Option α} {r:α}
  (hk:stepOp E rts n ops.toList fr o k=some r):∃ fr' fp,k fr' fp=some r∧∀ (K:Act→World→Prop) (Q:Exit→Act→World→Prop) (i:Nat),ops[i]? = some o →
   (∀ a' w' p' g',Inv n B M w0 p0 w' p' g' a' fr'→Mono w p g (used fr.st) w' p' g' (used fr'.st)→K a' w')→wpOp P ops Q i K a w:=by
 have go:∀ (slots:Nat→AV),(∀ t,slots t=fr.slots t)→Region.wanted o (yielded ops a.tmps)=true→(doOp E rts ⟨slots,fr.st⟩ o fun v st fp=>putSlot ⟨slots,fr.st⟩ n o.dst v st fun fr'=>k fr' fp)=some r →
   ∃ fr' fp,k fr' fp=some r∧∀ (K:Act→World→Prop) (Q:Exit→Act→World→Prop) (i:Nat),ops[i]? = some o →
   (∀ a' w' p' g',Inv n B M w0 p0 w' p' g' a' fr'→Mono w p g (used fr.st) w' p' g' (used fr'.st)→K a' w')→wpOp P ops Q i K a w:=by
  intro slots hsl hw hk
  obtain ⟨v,st',fp,hk1,hop⟩:=sim_op (a:=a) hty hC hG h.s (fr:=⟨slots,fr.st⟩) (fun t=>by simp only [hsl t];exact h.slots t) hk
  rw [putSlot_cps] at hk1
  obtain ⟨fr',hp,hk2⟩:=bind_inv hk1
  refine ⟨fr',fp,hk2,fun K Q i ho hK=> ?_⟩
  simp only [wpOp,ho,hw,if_true]
  refine .inl (hop K Q fun v' w' p' g' hs hm hv=> ?_)
  have hst:=putSlot_st hp
  refine hK _ w' p' g' (h.put (v:=v) (α:=Fr) (k:=some) (r:=fr') hs hm hv slots hsl _ hp) ?_
  rw [hst];exact hm
 have skip:∀ (slots:Nat→AV),(∀ t,slots t=fr.slots t)→Region.wanted o (yielded ops a.tmps)=false→(putSlot ⟨slots,fr.st⟩ n o.dst (.tup []) fr.st fun fr'=>k fr' .none)=some r →
   ∃ fr' fp,k fr' fp=some r∧∀ (K:Act→World→Prop) (Q:Exit→Act→World→Prop) (i:Nat),ops[i]? = some o →
   (∀ a' w' p' g',Inv n B M w0 p0 w' p' g' a' fr'→Mono w p g (used fr.st) w' p' g' (used fr'.st)→K a' w')→wpOp P ops Q i K a w:=by
  intro slots hsl hw hk
  rw [putSlot_cps] at hk
  obtain ⟨fr',hp,hk2⟩:=bind_inv hk
  refine ⟨fr',_,hk2,fun K Q i ho hK=> ?_⟩
  simp only [wpOp,ho,hw,if_false,Bool.false_eq_true]
  have hst:=putSlot_st hp
  refine hK _ w p g (h.put (v := .tup []) (v':=undef) (α:=Fr) (k:=some) (r:=fr') h.s Mono.refl (.inr (.inr ⟨#[],[],rfl,rfl,.nil⟩)) slots hsl _ hp) ?_
  rw [hst];exact Mono.refl
 unfold stepOp at hk
 split at hk
 ·rename_i hg
  exact go fr.slots (fun _=>rfl) (by simp [Region.wanted,hg]) hk
 ·rename_i j want hg
  split at hk
  ·cases hk
  ·rename_i gs hgs
   rcases onGuard_inv hk with ⟨b,hb,hk1⟩ | ⟨hb,hk1⟩
   case inr =>
    have hv:a.tmps.getD gs undef = .tuple #[]:=by
     have:=h.slots gs
     rw [hb] at this
     obtain ⟨arr,e,hc⟩:=this.tup
     rw [e,show arr = #[] from Array.toList_inj.1 hc.nil_iff]
    have hy:yielded ops a.tmps j=none:=by
     have:(ops[j]?).bind (·.dst)=some gs:=by
      unfold guardSlot at hgs
      simpa using hgs
     simp only [yielded,this]
     rw [Array.getD_eq_getD_getElem?] at hv
     cases hq:a.tmps[gs]? with
     | none=>simp [hq]
     | some x=>rw [hq] at hv;simp at hv;simp [hq,hv]
    exact skip fr.slots (fun _=>rfl) (by simp [Region.wanted,hg,hy]) hk1
   have hv:a.tmps.getD gs undef = .bool b:=by
    have:=h.slots gs
    rw [hb] at this
    exact this.bool
   have hget:a.tmps[gs]? = some (.bool b):=by
    rw [Array.getD_eq_getD_getElem?] at hv
    cases hq:a.tmps[gs]? with
    | none=>rw [hq] at hv;exact absurd hv (undef_bool b)
    | some x=>rw [hq] at hv;simp at hv;rw [hv]
   have hy:yielded ops a.tmps j=some b:=by
    have:(ops[j]?).bind (·.dst)=some gs:=by
     unfold guardSlot at hgs
     simpa using hgs
    simp [yielded,this,hget]
   have hwant:Region.wanted o (yielded ops a.tmps)=(b==want):=by
    simp only [Region.wanted,hg,hy]
    cases b<;>cases want<;>rfl
   cases b<;>cases want<;>simp only [sel,cond_true,cond_false] at hk1
   ·exact go _ (upd_self hb) (by rw [hwant];rfl) hk1
   ·exact skip _ (upd_self hb) (by rw [hwant];rfl) hk1
   ·exact skip _ (upd_self hb) (by rw [hwant];rfl) hk1
   ·exact go _ (upd_self hb) (by rw [hwant];rfl) hk1
def Stable (S:World→Prot→(Nat→Value)→(Nat→Prop)→Prop):Prop:=∀ {w p g u w' p' g' u'},Mono w p g u w' p' g' u'→S w p g u→S w' p' g' u'
def OkS (E:Env) (n B:Nat) (M:Nat→Prop) (w0:World) (p0:Prot) (S:World→Prot→(Nat→Value)→(Nat→Prop)→Prop) (a:Act) (w:World) (fr:Fr):Prop:=∃ p g,Inv n B M w0 p0 w p g a fr∧GlobOK E w p∧S w p g (used fr.st)
def handS (E:Env) (g0:Nat→Value):World→Prot→(Nat→Value)→(Nat→Prop)→Prop:=fun _ _ g u=>∀ k∈E.hand,u k∧g k=g0 k
theorem handS_stable:Stable (handS E g0):=fun hm hH k hk=>⟨hm.uk k (hH k hk).1,(hm.gk k (hH k hk).1).trans (hH k hk).2⟩
abbrev Ok (E:Env) (n B:Nat) (M:Nat→Prop) (w0:World) (p0:Prot) (g0:Nat→Value) (a:Act) (w:World) (fr:Fr):Prop:=OkS E n B M w0 p0 (handS E g0) a w fr
variable {S:World→Prot→(Nat→Value)→(Nat→Prop)→Prop}
theorem step_ok {α:Type} {ops:Array Oper} (hS:Stable S) (hty:∀ t i,E.ty t=some i→mkTI P t=some i) (hC:CallOK P E rts) (h:OkS E n B M w0 p0 S a w fr) {o:Oper} {k:Fr→FP→Option α} {r:α}
  (hk:stepOp E rts n ops.toList fr o k=some r):∃ fr' fp,k fr' fp=some r∧∀ (K:Act→World→Prop) (Q:Exit→Act→World→Prop) (i:Nat),ops[i]? = some o →
   (∀ a' w',OkS E n B M w0 p0 S a' w' fr'→K a' w')→wpOp P ops Q i K a w:=by
 obtain ⟨p,g,hi,hG,hH⟩:=h
 obtain ⟨fr',fp,h1,h2⟩:=sim_stepOp hty hC hG hi hk
 exact ⟨fr',fp,h1,fun K Q i ho hK=>h2 K Q i ho fun a' w' p' g' hi' hm=>hK a' w' ⟨p',g',hi',hG.mono hm.prot hm.cell,hS hm hH⟩⟩
theorem sim_execOps {α:Type} {ops:Array Oper} (hS:Stable S) (hty:∀ t i,E.ty t=some i→mkTI P t=some i) (hC:CallOK P E rts):∀ {L:List Nat} {os:List Oper} {fr:Fr} {a:Act} {w:World} (h:OkS E n B M w0 p0 S a w fr) {k:Fr→List FP→Option α} {r:α}
  (hL:L.map (fun i=>ops[i]?)=os.map some) (hk:execOps E rts n ops.toList os fr k=some r) (Q:Exit→Act→World→Prop),(∀ fr' fps,k fr' fps=some r→∀ a' w',OkS E n B M w0 p0 S a' w' fr'→Q .normal a' w')→wpOps P ops Q L a w
 | [],[],fr,a,w,h,k,r,hL,hk,Q,hQ=>hQ fr [] hk a w h
 | i::L,o::os,fr,a,w,h,k,r,hL,hk,Q,hQ=>by
  simp only [List.map_cons,List.cons.injEq] at hL
  rw [execOps_cons] at hk
  obtain ⟨fr1,fp,hk1,hstep⟩:=step_ok hS hty hC h hk
  rw [wpOps_cons]
  refine hstep _ Q i hL.1 fun a1 w1 hi=> ?_
  exact sim_execOps hS hty hC hi hL.2 hk1 Q fun fr' fps hk2 a' w' hi'=>hQ fr' _ hk2 a' w' hi'
 | [],_::_,_,_,_,_,_,_,hL,_,_,_=>by simp at hL
 | _::_,[],_,_,_,_,_,_,hL,_,_,_=>by simp at hL
theorem range_map (ops:Array Oper):(List.range ops.size).map (fun i=>ops[i]?)=ops.toList.map some:=by
 apply List.ext_getElem?
 intro i
 simp only [List.getElem?_map]
 by_cases h:i<ops.size
 ·simp [h]
 ·have:ops.size≤i:=by omega
  simp [this]
end
end Go.Abs
