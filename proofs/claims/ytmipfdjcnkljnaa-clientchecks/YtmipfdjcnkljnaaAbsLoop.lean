/- Operations one behind the other, with their guards. -/
import Derived.Test.YtmipfdjcnkljnaaAbsOp
import Derived.Orders
import Derived.Test.YtmipfdjcnkljnaaAbsLoc
open Nat renaming eq_of_beq_eq_true→Zz
open List renaming nil_append→Zy,cons_append→Zx
open Bool renaming and_eq_true→Zw
namespace Go.Abs
set_option linter.unusedVariables false
section
variable {α:Type} (E:Env) (rts:Nat→Option (List Nat))
def stepOp (n:Nat) (all:List Oper) (fr:Fr) (o:Oper) (k:Fr→FP→Option α):Option α :=
 match o.guard with
 | none=>doOp E rts fr o fun v st fp=>putSlot fr n o.dst v st fun fr'=>k fr' fp
 | some (j,want)=>match guardSlot all j with
  | none=>none
  | some g=>(fr.slots g).onGuard (fun b =>
   sel b
    (match want with
     | true=>doOp E rts ⟨upd fr.slots g (.bool true),fr.st⟩ o fun v st fp=>putSlot ⟨upd fr.slots g (.bool true),fr.st⟩ n o.dst v st fun fr'=>k fr' fp
     | false=>putSlot ⟨upd fr.slots g (.bool true),fr.st⟩ n o.dst (.tup []) fr.st fun fr'=>k fr' .none)
    (match want with
     | false=>doOp E rts ⟨upd fr.slots g (.bool false),fr.st⟩ o fun v st fp=>putSlot ⟨upd fr.slots g (.bool false),fr.st⟩ n o.dst v st fun fr'=>k fr' fp
     | true=>putSlot ⟨upd fr.slots g (.bool false),fr.st⟩ n o.dst (.tup []) fr.st fun fr'=>k fr' .none))
   (putSlot fr n o.dst (.tup []) fr.st fun fr'=>k fr' .none)
theorem execOps_cons {n:Nat} {all:List Oper} {o:Oper} {os:List Oper} {fr:Fr} {k:Fr→List FP→Option α} :
  execOps E rts n all (o::os) fr k=stepOp E rts n all fr o fun fr' fp=>execOps E rts n all os fr' fun fr2 fps=>k fr2 (fp::fps):=by
 simp only [execOps,stepOp]
 cases o.guard with
 | none=>rfl
 | some x =>
  obtain ⟨j,want⟩:=x
  simp only
  cases guardSlot all j with
  | none=>rfl
  | some g=>cases want<;>rfl
end
theorem undef_bool (b:Bool):undef ≠ .bool b:=by simp [undef]
section
variable {P:Program} {n B:Nat} {M:Nat→Prop} {w0:World} {p0:Prot} {w:World} {p:Prot} {g g0:Nat→Value} {a:Act} {fr:Fr} {E:Env} {rts:Nat→Option (List Nat)}
theorem getD_put {d t:Nat} {v:Value} (hd:d<a.tmps.size):(a.put (some d) v).tmps.getD t undef=if t=d then v else a.tmps.getD t undef:=by
 simp only [Act.put,Array.getD_eq_getD_getElem?,Array.getElem?_setIfInBounds]
 by_cases h:t=d
 ·subst h;simp [hd]
 ·rw [if_neg (Ne.symm h),if_neg h]
theorem Inv.put {w':World} {p':Prot} {g':Nat→Value} {st':Nat→Blk} {v:AV} {v':Value} {dst:Option Nat} {α:Type} {k:Fr→Option α} {r:α} (h:Inv n B M w0 p0 w p g a fr)
  (hs:SInv B M w0 p0 w' p' g' st') (hm:Mono w p g (used fr.st) w' p' g' (used st')) (hv:RepV w' p' g' (used st') v' v) (slots:Nat→AV) (hsl:∀ t,slots t=fr.slots t) (st0:Nat→Blk) {fr':Fr}
  (hk:putSlot ⟨slots,st0⟩ n dst v st' some=some fr'):Inv n B M w0 p0 w' p' g' (a.put dst v') fr':=by
 have hslots:slots=fr.slots:=funext hsl
 subst hslots
 unfold putSlot at hk
 cases dst with
 | none =>
  cases hk
  exact ⟨hs,h.defers,h.size,fun t=>hm.repV (h.slots t)⟩
 | some d =>
  obtain ⟨hd,hk1⟩:=bif_inv hk
  have hd':d<n:=by simpa using hd
  cases hk1
  refine ⟨hs,h.defers,by simp [Act.put,h.size],fun t=> ?_⟩
  rw [getD_put (by rw [h.size];exact hd')]
  by_cases e:t=d
  ·subst e;rw [if_pos rfl];simp only [upd_same];exact hv
  ·rw [if_neg e];simp only [upd_ne _ _ e];exact hm.repV (h.slots t)
theorem putSlot_cps {α:Type} {fr:Fr} {n:Nat} {d:Option Nat} {v:AV} {st:Nat→Blk} {k:Fr→Option α}:putSlot fr n d v st k=(putSlot fr n d v st some).bind k:=by
 unfold putSlot
 cases d with
 | none=>rfl
 | some t =>
  simp only
  cases Nat.blt t n<;>rfl
theorem putSlot_st {fr fr':Fr} {d:Option Nat} {v:AV} {st:Nat→Blk} (h:putSlot fr n d v st some=some fr'):fr'.st=st:=by
 unfold putSlot at h
 cases d with
 | none=>cases h;rfl
 | some t=>obtain ⟨_,h⟩:=bif_inv h;cases h;rfl
theorem upd_self {f:Nat→AV} {k:Nat} {v:AV} (h:f k=v) (t:Nat):upd f k v t=f t:=by
 by_cases e:t=k
 ·subst e;rw [upd_same,h]
 ·rw [upd_ne _ _ e]
theorem sim_stepOp {α:Type} {ops:Array Oper} (hty:∀ t i,E.ty t=some i→mkTI P t=some i) (hC:CallOK P E rts) (hG:GlobOK E w p) (h:Inv n B M w0 p0 w p g a fr) {o:Oper} {k:Fr→FP→Option α} {r:α}
  (hk:stepOp E rts n ops.toList fr o k=some r):∃ fr' fp,k fr' fp=some r∧∀ (K:Act→World→Prop) (Q:Exit→Act→World→Prop) (i:Nat),ops[i]? = some o →
   (∀ a' w' p' g',Inv n B M w0 p0 w' p' g' a' fr'→Mono w p g (used fr.st) w' p' g' (used fr'.st)→K a' w')→wpOp P ops Q i K a w:=by
 have go:∀ (slots:Nat→AV),(∀ t,slots t=fr.slots t)→Region.wanted o (yielded ops a.tmps)=true→(doOp E rts ⟨slots,fr.st⟩ o fun v st fp=>putSlot ⟨slots,fr.st⟩ n o.dst v st fun fr'=>k fr' fp)=some r →
   ∃ fr' fp,k fr' fp=some r∧∀ (K:Act→World→Prop) (Q:Exit→Act→World→Prop) (i:Nat),ops[i]? = some o →
   (∀ a' w' p' g',Inv n B M w0 p0 w' p' g' a' fr'→Mono w p g (used fr.st) w' p' g' (used fr'.st)→K a' w')→wpOp P ops Q i K a w:=by
  intro slots hsl hw hk
  obtain ⟨v,st',fp,hk1,hop⟩:=sim_op (a:=a) hty hC hG h.s (fr:=⟨slots,fr.st⟩) (fun t=>by simp only [hsl t];exact h.slots t) hk
  rw [putSlot_cps] at hk1
  obtain ⟨fr',hp,hk2⟩:=bind_inv hk1
  refine ⟨fr',fp,hk2,fun K Q i ho hK=> ?_⟩
  simp only [wpOp,ho,hw,if_true]
  refine .inl (hop K Q fun v' w' p' g' hs hm hv=> ?_)
  have hst:=putSlot_st hp
  refine hK _ w' p' g' (h.put (v:=v) (α:=Fr) (k:=some) (r:=fr') hs hm hv slots hsl _ hp) ?_
  rw [hst];exact hm
 have skip:∀ (slots:Nat→AV),(∀ t,slots t=fr.slots t)→Region.wanted o (yielded ops a.tmps)=false→(putSlot ⟨slots,fr.st⟩ n o.dst (.tup []) fr.st fun fr'=>k fr' .none)=some r →
   ∃ fr' fp,k fr' fp=some r∧∀ (K:Act→World→Prop) (Q:Exit→Act→World→Prop) (i:Nat),ops[i]? = some o →
   (∀ a' w' p' g',Inv n B M w0 p0 w' p' g' a' fr'→Mono w p g (used fr.st) w' p' g' (used fr'.st)→K a' w')→wpOp P ops Q i K a w:=by
  intro slots hsl hw hk
  rw [putSlot_cps] at hk
  obtain ⟨fr',hp,hk2⟩:=bind_inv hk
  refine ⟨fr',_,hk2,fun K Q i ho hK=> ?_⟩
  simp only [wpOp,ho,hw,if_false,Bool.false_eq_true]
  have hst:=putSlot_st hp
  refine hK _ w p g (h.put (v := .tup []) (v':=undef) (α:=Fr) (k:=some) (r:=fr') h.s Mono.refl (.inr (.inr ⟨#[],[],rfl,rfl,.nil⟩)) slots hsl _ hp) ?_
  rw [hst];exact Mono.refl
 unfold stepOp at hk
 split at hk
 ·rename_i hg
  exact go fr.slots (fun _=>rfl) (by simp [Region.wanted,hg]) hk
 ·rename_i j want hg
  split at hk
  ·cases hk
  ·rename_i gs hgs
   rcases onGuard_inv hk with ⟨b,hb,hk1⟩ | ⟨hb,hk1⟩
   case inr =>
    have hv:a.tmps.getD gs undef = .tuple #[]:=by
     have:=h.slots gs
     rw [hb] at this
     obtain ⟨arr,e,hc⟩:=this.tup
     rw [e,show arr = #[] from Array.toList_inj.1 hc.nil_iff]
    have hy:yielded ops a.tmps j=none:=by
     have:(ops[j]?).bind (·.dst)=some gs:=by
      unfold guardSlot at hgs
      simpa using hgs
     simp only [yielded,this]
     rw [Array.getD_eq_getD_getElem?] at hv
     cases hq:a.tmps[gs]? with
     | none=>simp [hq]
     | some x=>rw [hq] at hv;simp at hv;simp [hq,hv]
    exact skip fr.slots (fun _=>rfl) (by simp [Region.wanted,hg,hy]) hk1
   have hv:a.tmps.getD gs undef = .bool b:=by
    have:=h.slots gs
    rw [hb] at this
    exact this.bool
   have hget:a.tmps[gs]? = some (.bool b):=by
    rw [Array.getD_eq_getD_getElem?] at hv
    cases hq:a.tmps[gs]? with
    | none=>rw [hq] at hv;exact absurd hv (undef_bool b)
    | some x=>rw [hq] at hv;simp at hv;rw [hv]
   have hy:yielded ops a.tmps j=some b:=by
    have:(ops[j]?).bind (·.dst)=some gs:=by
     unfold guardSlot at hgs
     simpa using hgs
    simp [yielded,this,hget]
   have hwant:Region.wanted o (yielded ops a.tmps)=(b==want):=by
    simp only [Region.wanted,hg,hy]
    cases b<;>cases want<;>rfl
   cases b<;>cases want<;>simp only [sel,cond_true,cond_false] at hk1
   ·exact go _ (upd_self hb) (by rw [hwant];rfl) hk1
   ·exact skip _ (upd_self hb) (by rw [hwant];rfl) hk1
   ·exact skip _ (upd_self hb) (by rw [hwant];rfl) hk1
   ·exact go _ (upd_self hb) (by rw [hwant];rfl) hk1
def Stable (S:World→Prot→(Nat→Value)→(Nat→Prop)→Prop):Prop:=∀ {w p g u w' p' g' u'},Mono w p g u w' p' g' u'→S w p g u→S w' p' g' u'
def OkS (E:Env) (n B:Nat) (M:Nat→Prop) (w0:World) (p0:Prot) (S:World→Prot→(Nat→Value)→(Nat→Prop)→Prop) (a:Act) (w:World) (fr:Fr):Prop:=∃ p g,Inv n B M w0 p0 w p g a fr∧GlobOK E w p∧S w p g (used fr.st)
def handS (E:Env) (g0:Nat→Value):World→Prot→(Nat→Value)→(Nat→Prop)→Prop:=fun _ _ g u=>∀ k∈E.hand,u k∧g k=g0 k
theorem handS_stable:Stable (handS E g0):=fun hm hH k hk=>⟨hm.uk k (hH k hk).1,(hm.gk k (hH k hk).1).trans (hH k hk).2⟩
abbrev Ok (E:Env) (n B:Nat) (M:Nat→Prop) (w0:World) (p0:Prot) (g0:Nat→Value) (a:Act) (w:World) (fr:Fr):Prop:=OkS E n B M w0 p0 (handS E g0) a w fr
variable {S:World→Prot→(Nat→Value)→(Nat→Prop)→Prop}
theorem step_ok {α:Type} {ops:Array Oper} (hS:Stable S) (hty:∀ t i,E.ty t=some i→mkTI P t=some i) (hC:CallOK P E rts) (h:OkS E n B M w0 p0 S a w fr) {o:Oper} {k:Fr→FP→Option α} {r:α}
  (hk:stepOp E rts n ops.toList fr o k=some r):∃ fr' fp,k fr' fp=some r∧∀ (K:Act→World→Prop) (Q:Exit→Act→World→Prop) (i:Nat),ops[i]? = some o →
   (∀ a' w',OkS E n B M w0 p0 S a' w' fr'→K a' w')→wpOp P ops Q i K a w:=by
 obtain ⟨p,g,hi,hG,hH⟩:=h
 obtain ⟨fr',fp,h1,h2⟩:=sim_stepOp hty hC hG hi hk
 exact ⟨fr',fp,h1,fun K Q i ho hK=>h2 K Q i ho fun a' w' p' g' hi' hm=>hK a' w' ⟨p',g',hi',hG.mono hm.prot hm.cell,hS hm hH⟩⟩
theorem sim_execOps {α:Type} {ops:Array Oper} (hS:Stable S) (hty:∀ t i,E.ty t=some i→mkTI P t=some i) (hC:CallOK P E rts):∀ {L:List Nat} {os:List Oper} {fr:Fr} {a:Act} {w:World} (h:OkS E n B M w0 p0 S a w fr) {k:Fr→List FP→Option α} {r:α}
  (hL:L.map (fun i=>ops[i]?)=os.map some) (hk:execOps E rts n ops.toList os fr k=some r) (Q:Exit→Act→World→Prop),(∀ fr' fps,k fr' fps=some r→∀ a' w',OkS E n B M w0 p0 S a' w' fr'→Q .normal a' w')→wpOps P ops Q L a w
 | [],[],fr,a,w,h,k,r,hL,hk,Q,hQ=>hQ fr [] hk a w h
 | i::L,o::os,fr,a,w,h,k,r,hL,hk,Q,hQ=>by
  simp only [List.map_cons,List.cons.injEq] at hL
  rw [execOps_cons] at hk
  obtain ⟨fr1,fp,hk1,hstep⟩:=step_ok hS hty hC h hk
  rw [wpOps_cons]
  refine hstep _ Q i hL.1 fun a1 w1 hi=> ?_
  exact sim_execOps hS hty hC hi hL.2 hk1 Q fun fr' fps hk2 a' w' hi'=>hQ fr' _ hk2 a' w' hi'
 | [],_::_,_,_,_,_,_,_,hL,_,_,_=>by simp at hL
 | _::_,[],_,_,_,_,_,_,hL,_,_,_=>by simp at hL
theorem range_map (ops:Array Oper):(List.range ops.size).map (fun i=>ops[i]?)=ops.toList.map some:=by
 apply List.ext_getElem?
 intro i
 simp only [List.getElem?_map]
 by_cases h:i<ops.size
 ·simp [h]
 ·have:ops.size≤i:=by omega
  simp [this]
end
end Go.Abs
/- What a loop keeps: read off one frame, laid into another. -/
namespace Go.Abs
set_option linter.unusedVariables false
def Tg (R:Value→AV→Prop) (w:World) (g:Nat→Value) (st:Nat→Blk) (ok:Option Nat) (gv:Value):Blk→Prop
 | .rowB e l pub=>(ok=none∧l=[]∧∃ a,gv = .slice a 0 0)∨∃ k q,ok=some k∧gv=g k∧st k = .rowB e l q∧(pub=false→q=false)
 | .rowL e z l pub=>(ok=none∧l=[]∧0<z∧∃ a,gv = .slice a 0 0)∨∃ k q,ok=some k∧gv=g k∧st k = .rowL e z l q∧(pub=false→q=false)
 | .cells cs'=>∃ k cs β c e,ok=some k∧gv=g k∧st k = .cells cs∧g k = .pointer (some ⟨β,0,none⟩)∧w.heap[β]? = some (.cells c e (0,0))∧Cells R c.toList cs'
 | .barr l pub=>∃ k q,ok=some k∧gv=g k∧st k = .barr l q∧(pub=false→q=false)
 | _=>False
def Blk.isBlock:Blk→Bool
 | .cells _=>true
 | .barr .. => true
 | _=>false
structure CR (H:List Nat) (B:Nat) (M:Nat→Prop) (w0:World) (p0:Prot) (w:World) (p:Prot) (g:Nat→Value) (st:Nat→Blk) (L:List Nat) (a:Act) (fr:Fr) (g':Nat→Value) (φ:Nat→Option Nat):Prop where
 src:SInv B M w0 p0 w p g st
 tgt:∀ k,(fr.st k).live→Tg (RepC w p g' (used fr.st)) w g st (φ k) (g' k) (fr.st k)
 lock:∀ k j,fr.st k ≠ .free→φ k=some j→j∈L
 inj:∀ k1 k2 j,fr.st k1 ≠ .free→fr.st k2 ≠ .free→φ k1=some j→φ k2=some j→k1=k2
 slots:∀ t,RepV w p g' (used fr.st) (a.tmps.getD t undef) (fr.slots t)
 own:∀ k,(fr.st k).isBlock=true→φ k=some k
 hand:∀ k∈H,used fr.st k∧g' k=g k
 dead:∀ k,fr.st k = .dead→k∈H
section
variable {P:Program} {H:List Nat} {n B:Nat} {M:Nat→Prop} {w0:World} {p0:Prot} {w:World} {p:Prot} {g:Nat→Value} {st:Nat→Blk} {L:List Nat} {a:Act} {fr:Fr} {g':Nat→Value} {φ:Nat→Option Nat} {E:Env}
theorem Tg.mono {R R1:Value→AV→Prop} {st1:Nat→Blk} {ok:Option Nat} {gv:Value} {b:Blk} (h:Tg R w g st ok gv b) (hp:∀ v c,R v c→R1 v c) (hs:∀ k,ok=some k→st1 k=st k):Tg R1 w g st1 ok gv b:=by
 cases b with
 | free=>exact h
 | dead=>exact h
 | cells cs' =>
  obtain ⟨k,cs,β,c,e,h1,h2,h3,h4,h5,h6⟩:=h
  exact ⟨k,cs,β,c,e,h1,h2,(hs k h1).trans h3,h4,h5,h6.imp hp⟩
 | barr l pub=>obtain ⟨k,q,h1,h2,h3,h4⟩:=h;exact ⟨k,q,h1,h2,(hs k h1).trans h3,h4⟩
 | rowB e l pub =>
  rcases h with h | ⟨k,q,h1,h2,h3,h4⟩
  ·exact .inl h
  ·exact .inr ⟨k,q,h1,h2,(hs k h1).trans h3,h4⟩
 | rowL e z l pub =>
  rcases h with h | ⟨k,q,h1,h2,h3,h4⟩
  ·exact .inl h
  ·exact .inr ⟨k,q,h1,h2,(hs k h1).trans h3,h4⟩
theorem CR.pub (h:CR H B M w0 p0 w p g st L a fr g' φ) {p1:Prot} {st1:Nat→Blk} (hs:SInv B M w0 p0 w p1 g st1) (hp:∀ β,p β≤p1 β) (he:∀ k∈L,st1 k=st k):CR H B M w0 p0 w p1 g st1 L a fr g' φ :=
 ⟨hs,fun k hl=>(h.tgt k hl).mono (fun _ _=>Mono.repC ⟨hp,fun _ _ _=>rfl,fun _ _=>rfl,fun _ hk=>hk⟩) fun j hj=>he j (h.lock k j (live_used hl) hj),h.lock,h.inj,fun t=>Mono.repV ⟨hp,fun _ _ _=>rfl,fun _ _=>rfl,fun _ hk=>hk⟩ (h.slots t),h.own,h.hand,h.dead⟩
theorem CR.slot (h:CR H B M w0 p0 w p g st L a fr g' φ) {s:Nat} {v:AV} (hv:RepV w p g' (used fr.st) (a.tmps.getD s undef) v):CR H B M w0 p0 w p g st L a ⟨upd fr.slots s v,fr.st⟩ g' φ :=
 ⟨h.src,h.tgt,h.lock,h.inj,fun t=>by
  by_cases e:t=s
  ·subst e;simp only [upd_same];exact hv
  ·simp only [upd_ne _ _ e];exact h.slots t,h.own,h.hand,h.dead⟩
theorem CR.add (h:CR H B M w0 p0 w p g st L a fr g' φ) {t:Nat} {b:Blk} {ok:Option Nat} {gv:Value} {L':List Nat} (hf:fr.st t = .free∨fr.st t = .dead) (hb:b.live) (hT:Mono w p g' (used fr.st) w p (upd g' t gv) (used (upd fr.st t b))→Tg (RepC w p (upd g' t gv) (used (upd fr.st t b))) w g st ok gv b) (hk:∀ k,ok=some k→k ∉ L∧k∈L') (hL:∀ k∈L,k∈L') (hown:b.isBlock=true→ok=some t) (hH:t∈H→gv=g t) :
  CR H B M w0 p0 w p g st L' a ⟨fr.slots,upd fr.st t b⟩ (upd g' t gv) (fun x=>if x=t then ok else φ x):=by
 have hbf:b ≠ .free:=fun e=>by rw [e] at hb;exact hb
 have hgt:used fr.st t→upd g' t gv t=g' t:=fun hu=>by
  have hd:t∈H:=h.dead t (hf.resolve_left hu)
  rw [upd_same,hH hd,(h.hand t hd).2]
 have hgk:∀ k,used fr.st k→upd g' t gv k=g' k:=fun k hk=>by
  by_cases e:k=t
  ·subst e;exact hgt hk
  ·exact upd_ne _ _ e
 have hmo:Mono w p g' (used fr.st) w p (upd g' t gv) (used (upd fr.st t b)):=⟨fun _=>Nat.le_refl _,fun _ _ _=>rfl,hgk,fun k hk=>used_upd hbf hk⟩
 have hne:∀ k,upd fr.st t b k ≠ .free→k≠t→fr.st k ≠ .free:=fun k hk e=>by rw [upd_ne _ _ e] at hk;exact hk
 refine ⟨h.src,fun k hl=> ?_,fun k j hkf hj=> ?_,fun k1 k2 j h1 h2 e1 e2=> ?_,fun s=> ?_,fun k hb=> ?_,fun k hk=> ?_,fun k hd=> ?_⟩
 ·by_cases e:k=t
  ·subst e;simp only [upd_same,if_true];exact hT hmo
  ·simp only [upd_ne _ _ e,if_neg e] at hl ⊢;exact (h.tgt k hl).mono (fun _ _=>hmo.repC) fun _ _=>rfl
 ·simp only at hj hkf
  by_cases e:k=t
  ·rw [if_pos e] at hj;exact (hk j hj).2
  ·rw [if_neg e] at hj;exact hL j (h.lock k j (hne k hkf e) hj)
 ·simp only at e1 e2 h1 h2
  by_cases c1:k1=t
  ·by_cases c2:k2=t
   ·rw [c1,c2]
   ·rw [if_pos c1] at e1;rw [if_neg c2] at e2
    exact absurd (h.lock k2 j (hne k2 h2 c2) e2) (hk j e1).1
  ·by_cases c2:k2=t
   ·rw [if_neg c1] at e1;rw [if_pos c2] at e2
    exact absurd (h.lock k1 j (hne k1 h1 c1) e1) (hk j e2).1
   ·rw [if_neg c1] at e1;rw [if_neg c2] at e2
    exact h.inj k1 k2 j (hne k1 h1 c1) (hne k2 h2 c2) e1 e2
 ·exact Mono.repV ⟨fun _=>Nat.le_refl _,fun _ _ _=>rfl,hgk,fun k hk=>used_upd hbf hk⟩ (h.slots s)
 ·simp only at hb ⊢
  by_cases e:k=t
  ·subst e;rw [upd_same] at hb;rw [if_pos rfl];exact hown hb
  ·rw [upd_ne _ _ e] at hb;rw [if_neg e];exact h.own k hb
 ·exact ⟨used_upd hbf (h.hand k hk).1,(hgk k (h.hand k hk).1).trans (h.hand k hk).2⟩
 ·simp only at hd
  by_cases e:k=t
  ·subst e;rw [upd_same] at hd;rw [hd] at hb;exact hb.elim
  ·rw [upd_ne _ _ e] at hd;exact h.dead k hd
theorem CR.inv (h:CR H B M w0 p0 w p g st L a fr g' φ) (hd:a.defers=[]) (hn:a.tmps.size=n):Inv n B M w0 p0 w p g' a fr:=by
 have hS:=h.src
 have hvb:∀ k β,(fr.st k).live→vblk (g' k)=some β→∃ j,φ k=some j∧g' k=g j∧(st j).live:=by
  intro k β hf hv
  have ht:=h.tgt k hf
  cases hb:fr.st k with
  | free=>rw [hb] at hf;exact hf.elim
  | dead=>rw [hb] at hf;exact hf.elim
  | cells cs' =>
   rw [hb] at ht
   obtain ⟨j,cs,β,c,e,h1,h2,h3,_⟩:=ht
   exact ⟨j,h1,h2,by rw [h3];trivial⟩
  | barr l pub =>
   rw [hb] at ht
   obtain ⟨j,q,h1,h2,h3,_⟩:=ht
   exact ⟨j,h1,h2,by rw [h3];trivial⟩
  | rowB e l pub =>
   rw [hb] at ht
   rcases ht with ⟨_,_,x,hx⟩ | ⟨j,q,h1,h2,h3,_⟩
   ·rw [hx] at hv;cases x<;>simp [vblk] at hv
   ·exact ⟨j,h1,h2,by rw [h3];trivial⟩
  | rowL e z l pub =>
   rw [hb] at ht
   rcases ht with ⟨_,_,_,x,hx⟩ | ⟨j,q,h1,h2,h3,_⟩
   ·rw [hx] at hv;cases x<;>simp [vblk] at hv
   ·exact ⟨j,h1,h2,by rw [h3];trivial⟩
 refine ⟨⟨hS.os,hS.tape,hS.output,hS.size,hS.old,fun k=> ?_,fun k1 k2 β hne hl1 hl2 hv1 hv2=> ?_,hS.newp,hS.oldp⟩,hd,hn,h.slots⟩
 ·have ht:=h.tgt k
  cases hb:fr.st k with
  | free=>trivial
  | dead=>trivial
  | cells cs' =>
   rw [hb] at ht
   replace ht:=ht trivial
   obtain ⟨j,cs,β,c,e,h1,h2,h3,h4,h5,h6⟩:=ht
   have hj:=hS.blk j
   rw [h3] at hj
   obtain ⟨β',c',e',f1,f2,f3,f4,f5⟩:=hj
   rw [h4] at f1;cases f1
   exact ⟨β,c,e,h2.trans h4,f2,h5,h6,f5⟩
  | barr l pub =>
   rw [hb] at ht
   replace ht:=ht trivial
   obtain ⟨j,q,h1,h2,h3,h4⟩:=ht
   have hj:=hS.blk j
   rw [h3] at hj
   obtain ⟨β',c',e',f1,f2,f3,f4,f5,f6⟩:=hj
   exact ⟨β',c',e',h2.trans f1,f2,f3,f4,f5,fun hp=>f6 (h4 hp)⟩
  | rowB e l pub =>
   rw [hb] at ht
   replace ht:=ht trivial
   rcases ht with ⟨_,rfl,x,hx⟩ | ⟨j,q,h1,h2,h3,h4⟩
   ·refine ⟨⟨by simp,.inl ⟨rfl,x,hx⟩⟩,fun β hv=> ?_⟩
    rw [hx] at hv;cases x<;>simp [vblk] at hv
   ·have hj:=hS.blk j
    rw [h3] at hj
    obtain ⟨f1,f2⟩:=hj
    refine ⟨by rw [h2];exact f1,fun β hv=> ?_⟩
    rw [h2] at hv
    exact ⟨(f2 β hv).1,fun hp=>(f2 β hv).2 (h4 hp)⟩
  | rowL e z l pub =>
   rw [hb] at ht
   replace ht:=ht trivial
   rcases ht with ⟨_,rfl,hz,x,hx⟩ | ⟨j,q,h1,h2,h3,h4⟩
   ·refine ⟨hz,fun y hm=>absurd hm (by simp),[],⟨by simp,.inl ⟨rfl,x,hx⟩⟩,by exact Cells.nil,fun β hv=> ?_⟩
    rw [hx] at hv;cases x<;>simp [vblk] at hv
   ·have hj:=hS.blk j
    rw [h3] at hj
    obtain ⟨f0,f1,vs,f2,f3,f4⟩:=hj
    refine ⟨f0,f1,vs,by rw [h2];exact f2,f3,fun β hv=> ?_⟩
    rw [h2] at hv
    exact ⟨(f4 β hv).1,fun hp=>(f4 β hv).2 (h4 hp)⟩
 ·have hf1:fr.st k1 ≠ .free:=fun e=>by rw [e] at hl1;exact hl1
  have hf2:fr.st k2 ≠ .free:=fun e=>by rw [e] at hl2;exact hl2
  obtain ⟨j1,e1,d1,v1⟩:=hvb k1 β hl1 hv1
  obtain ⟨j2,e2,d2,v2⟩:=hvb k2 β hl2 hv2
  have hj:j1≠j2:=fun e=>hne (h.inj k1 k2 j1 hf1 hf2 e1 (e ▸ e2))
  rw [d1] at hv1;rw [d2] at hv2
  exact hS.dist j1 j2 β hj v1 v2 hv1 hv2
theorem outCs_len:∀ {cts:List CT} {vs:List AV} {st:Nat→Blk} {as:List AV} {st':Nat→Blk} {fp:FP},outCs cts vs st trip=some (as,st',fp)→as.length=cts.length
 | [],[],st,as,st',fp,h=>by cases h;rfl
 | c::cts,v::vs,st,as,st',fp,h=>by
  simp only [outCs] at h
  obtain ⟨x,s1,f1,h1,l1⟩:=(loc_out1 c v).go h
  obtain ⟨ys,s2,f2,h2,l2⟩:=(loc_outCs cts vs).go h1
  have:=outCs_len (l2.here _ trip)
  cases h2
  simp [this]
 | [],_::_,_,_,_,_,h=>by simp [outCs] at h
 | _::_,[],_,_,_,_,h=>by simp [outCs] at h
theorem out_agg {i:TI} {v:AV} {st:Nat→Blk} {x:AV} {st':Nat→Blk} {fp:FP} (h:out i v st trip=some (x,st',fp)) (hi:isAggK i.kind=true):∃ l,x = .agg l∧l.length=i.cts.length:=by
 unfold out at h
 rw [hi] at h
 split at h
 ·obtain ⟨ys,s2,f2,h2,l2⟩:=(loc_outCs _ _).go h
  have:=outCs_len (l2.here _ trip)
  cases h2
  exact ⟨_,rfl,this⟩
 ·rename_i he;cases he
 ·cases h
theorem takeCs_inv {α:Type}:∀ {cts:List CT} {l:List AV} {k:List AV→List AV→Option α} {r:α},takeCs cts l k=some r→∃ x y,l=x++y∧x.length=cts.length∧k x y=some r
 | [],l,k,r,h=>⟨[],l,rfl,rfl,h⟩
 | c::cts,l,k,r,h=>by
  simp only [takeCs] at h
  obtain ⟨x,t,rfl,h1⟩:=onCons_inv h
  have h2:=norm1_inv h1
  obtain ⟨xs,y,rfl,hl,h3⟩:=takeCs_inv h2
  exact ⟨x::xs,y,rfl,by simp [hl],h3⟩
theorem fresh_inv {α:Type} {st:Nat→Blk} {b:Nat} {k:Option α} {r:α} (h:fresh st b k=some r):st b = .free∧k=some r:=by
 unfold fresh at h
 split at h
 ·rename_i e;exact ⟨e,h⟩
 ·cases h
theorem freshB_inv {α:Type} {st:Nat→Blk} {b:Nat} {k:Option α} {r:α} (h:freshB st b k=some r):(st b = .free∨st b = .dead)∧k=some r:=by
 unfold freshB at h
 split at h
 ·rename_i e;exact ⟨.inl e,h⟩
 ·rename_i e;exact ⟨.inr e,h⟩
 ·cases h
theorem not_mem_of {L:List Nat} {x:Nat} (h:(!L.contains x)=true):x ∉ L:=by simpa using h
theorem CR.addRow (h:CR H B M w0 p0 w p g st L a fr g' φ) {s t:Nat} {b:Blk} {ok:Option Nat} {gv:Value} {L':List Nat} (hgv:a.tmps.getD s undef=gv) (hsl:∃ x y z,gv = .slice x y z) (hf:fr.st t = .free) (hb:b.live) (hT:∀ R,Tg R w g st ok gv b) (hk:∀ k,ok=some k→k ∉ L∧k∈L') (hL:∀ k∈L,k∈L') (hown:b.isBlock=true→ok=some t) :
  CR H B M w0 p0 w p g st L' a ⟨upd fr.slots s (.row t),upd fr.st t b⟩ (upd g' t gv) (fun x=>if x=t then ok else φ x):=by
 refine (h.add (.inl hf) hb (fun _=>hT _) hk hL hown fun hH=>absurd hf (h.hand t hH).1).slot (s:=s) (v := .row t) ?_
 have hus:used (upd fr.st t b) t:=by unfold used;rw [upd_same];intro e;rw [e] at hb;exact hb
 have hgt:upd g' t gv t=gv:=upd_same _ _ _
 have hrc:=RepC.row (w:=w) (p:=p) (g:=upd g' t gv) (u:=used (upd fr.st t b)) (k:=t) hus (by rw [hgt];exact hsl)
 rw [hgt] at hrc
 rw [hgv];exact RepC.v hrc
def Grown (fr fr2:Fr) (g g2:Nat→Value):Prop:=∀ k,used fr.st k→used fr2.st k∧g2 k=g k
theorem ownCell_ok {α:Type} {e z:Nat} {byte:Bool} {x:Value} {v:AV} {t:Nat} (hS:SInv B M w0 p0 w p g st) (hx:RepC w p g (used st) x v) {kk:AV→List Nat→Option α} {R:α} (hk:ownCell st L e z byte v kk=some R) :
  ∃ y L1 b ok,kk y L1=some R∧(∀ k∈L,k∈L1)∧b.live∧b.isBlock=false∧(match byte with | true=>∃ l,y = .ownB l∧b = .rowB e l false | false=>∃ l,y = .ownL l∧b = .rowL e z l false)∧(∀ R,Tg R w g st ok x b)∧(∀ k,ok=some k→k ∉ L∧k∈L1)∧∃ a b c,x = .slice a b c:=by
 unfold ownCell at hk
 cases byte with
 | true =>
  simp only at hk ⊢
  split at hk
  ·obtain ⟨a,rfl⟩:=(RepC.v hx).nils
   exact ⟨_,_,.rowB e [] false,none,hk,fun _ h=>h,trivial,rfl,⟨[],rfl,rfl⟩,fun _ => .inl ⟨rfl,rfl,a,rfl⟩,(fun _ h=>by cases h),_,_,_,rfl⟩
  ·rename_i r
   obtain ⟨hu,hxg,hx2⟩:=(RepC.v hx).row
   split at hk
   ·rename_i e' l hst
    obtain ⟨hc,hk1⟩:=chk_inv hk
    simp only [Zw] at hc
    have hee:e=e':=Zz hc.1
    subst hee
    have hnm:=not_mem_of hc.2
    exact ⟨_,_,.rowB e l false,some r,hk1,fun k h=>by simp [h],trivial,rfl,⟨l,rfl,rfl⟩,fun _ => .inr ⟨r,false,rfl,hxg,hst,fun _=>rfl⟩,fun k h=>by cases h;exact ⟨hnm,by simp⟩,by rw [hxg];exact hx2⟩
   ·cases hk
  ·cases hk
 | false =>
  simp only at hk ⊢
  split at hk
  ·obtain ⟨a,rfl⟩:=(RepC.v hx).nils
   obtain ⟨hz,hk⟩:=chk_inv hk
   exact ⟨_,_,.rowL e z [] false,none,hk,fun _ h=>h,trivial,rfl,⟨[],rfl,rfl⟩,fun _ => .inl ⟨rfl,rfl,by simpa using hz,a,rfl⟩,(fun _ h=>by cases h),_,_,_,rfl⟩
  ·rename_i r
   obtain ⟨hu,hxg,hx2⟩:=(RepC.v hx).row
   split at hk
   ·rename_i e' z' l hst
    obtain ⟨hc,hk1⟩:=chk_inv hk
    simp only [Zw] at hc
    have hee:e=e':=Zz hc.1.1
    have hzz:z=z':=Zz hc.1.2
    subst hee
    subst hzz
    have hnm:=not_mem_of hc.2
    exact ⟨_,_,.rowL e z l false,some r,hk1,fun k h=>by simp [h],trivial,rfl,⟨l,rfl,rfl⟩,fun _ => .inr ⟨r,false,rfl,hxg,hst,fun _=>rfl⟩,fun k h=>by cases h;exact ⟨hnm,by simp⟩,by rw [hxg];exact hx2⟩
   ·cases hk
  ·cases hk
theorem collectCs_ok {α:Type} {sl:Nat→AV}:∀ {kcs:List KC} {xs:List Value} {vs:List AV} {p:Prot} {st:Nat→Blk} {L:List Nat},SInv B M w0 p0 w p g st→Cells (RepC w p g (used st)) xs vs →
  ∀ {kk:List AV→(Nat→Blk)→List Nat→Option α} {R:α},collectCs kcs vs st L kk=some R→∃ l st1 L1 p1,kk l st1 L1=some R∧SInv B M w0 p0 w p1 g st1∧Mono w p g (used st) w p1 g (used st1)∧Pres st st1∧(∀ k∈L,k∈L1) ∧
   ∀ {fr:Fr} {g':Nat→Value} {φ:Nat→Option Nat},CR H B M w0 p0 w p g st L a fr g' φ→∀ {rest:List AV} {β:Type} {k2:List AV→List AV→Fr→Option β} {R':β},restoreCs kcs (l++rest) fr k2=some R' →
    ∃ cs2 fr2 g2 φ2,k2 cs2 rest fr2=some R'∧CR H B M w0 p0 w p1 g st1 L1 a fr2 g2 φ2∧Cells (RepC w p1 g2 (used fr2.st)) xs cs2∧Grown fr fr2 g' g2
 | [],xs,[],p,st,L,hS,hx,kk,R,hk=>by
  simp only [collectCs] at hk
  have:=hx.nil_iff
  subst this
  refine ⟨[],st,L,p,hk,hS,Mono.refl,Pres.refl,fun _ h=>h,fun {fr g' φ} h {rest β k2 R'} hr=> ?_⟩
  simp only [restoreCs,Zy] at hr
  exact ⟨[],fr,g',φ,hr,h,.nil,fun _ hk=>⟨hk,rfl⟩⟩
 | .imm c::kcs,xs,v::vs,p,st,L,hS,hx,kk,R,hk=>by
  simp only [collectCs] at hk
  obtain ⟨x,xs',rfl,h1,h2⟩:=hx.uncons
  obtain ⟨y,st1,fp,hk2,loc⟩:=(loc_out1 c v).go hk
  have ht:=loc.here _ trip
  obtain ⟨y',st1',fp',p1,e,hs1,hm1,hr1,hp1⟩:=sim_out1' hS h1.v ht
  cases e
  obtain ⟨hc,hk3⟩:=chk_inv hk2
  have hL:∀ k∈L,st1 k=st k:=fun k hk=>loc.eff k fun hw=>by
   have:=List.all_eq_true.1 hc k hw
   simp at this;exact this hk
  obtain ⟨l,st2,L2,p2,hkl,hs2,hm2,hp2,hL2,hrest⟩:=collectCs_ok (sl:=sl) hs1 (h2.imp fun _ _=>hm1.repC) hk3
  refine ⟨y::l,st2,L2,p2,hkl,hs2,hm1.trans hm2,hp1.trans hp2,hL2,fun {fr g' φ} h {rest β k2 R'} hr=> ?_⟩
  simp only [restoreCs,Zx,onCons] at hr
  have hr2:=norm1_inv hr
  obtain ⟨cs2,fr2,g2,φ2,r1,r2,r3,r4⟩:=hrest (h.pub hs1 hm1.prot hL) hr2
  exact ⟨_,fr2,g2,φ2,r1,r2,.cons (.imm (hm2.repI hr1)) r3,r4⟩
 | .own t e z byte::kcs,xs,v::vs,p,st,L,hS,hx,kk,R,hk=>by
  simp only [collectCs] at hk
  obtain ⟨x,xs',rfl,h1,h2⟩:=hx.uncons
  obtain ⟨y,L1,b,ok,hk1,hL1,hb,hnb,hby,hT,hok,hsl⟩:=ownCell_ok (t:=t) hS h1 hk
  obtain ⟨l,st2,L2,p2,hkl,hs2,hm2,hp2,hL2,hrest⟩:=collectCs_ok (sl:=sl) hS h2 hk1
  refine ⟨y::l,st2,L2,p2,hkl,hs2,hm2,hp2,fun k h=>hL2 k (hL1 k h),fun {fr g' φ} h {rest β k2 R'} hr=> ?_⟩
  simp only [restoreCs,Zx,onCons] at hr
  have fin:fr.st t = .free→restoreCs kcs (l++rest) ⟨fr.slots,upd fr.st t b⟩ (fun a b fr2=>k2 (.row t::a) b fr2)=some R' →
    ∃ cs2 fr2 g2 φ2,k2 cs2 rest fr2=some R'∧CR H B M w0 p0 w p2 g st2 L2 a fr2 g2 φ2∧Cells (RepC w p2 g2 (used fr2.st)) (x::xs') cs2∧Grown fr fr2 g' g2:=by
   intro hf hr2
   have hbf:b ≠ .free:=fun e=>by rw [e] at hb;exact hb
   have hcr:=h.add (t:=t) (b:=b) (ok:=ok) (gv:=x) (L':=L1) (.inl hf) hb (fun _=>hT _) hok hL1 (fun e=>by rw [hnb] at e;cases e) fun hH=>absurd hf (h.hand t hH).1
   obtain ⟨cs2,fr2,g2,φ2,r1,r2,r3,r4⟩:=hrest hcr hr2
   have hus:used (upd fr.st t b) t:=by unfold used;rw [upd_same];exact hbf
   have hrow:RepC w p2 g2 (used fr2.st) x (.row t):=by
    obtain ⟨u1,u2⟩:=r4 t hus
    have hg2:g2 t=x:=by rw [u2];exact upd_same _ _ _
    have:=RepC.row (w:=w) (p:=p2) (g:=g2) (u:=used fr2.st) (k:=t) u1 (by rw [hg2];exact hsl)
    rw [hg2] at this
    exact this
   refine ⟨_,fr2,g2,φ2,r1,r2,.cons hrow r3,fun k hk=> ?_⟩
   have hkt:k≠t:=fun e=>by subst e;exact hk hf
   obtain ⟨u1,u2⟩:=r4 k (by unfold used;dsimp only;rw [upd_ne _ _ hkt];exact hk)
   exact ⟨u1,u2.trans (upd_ne _ _ hkt)⟩
  cases byte with
  | true =>
   obtain ⟨l',rfl,rfl⟩:=hby
   simp only [AV.onOwnB] at hr
   obtain ⟨hf,hr2⟩:=fresh_inv hr
   exact fin hf hr2
  | false =>
   obtain ⟨l',rfl,rfl⟩:=hby
   simp only [AV.onOwnL] at hr
   obtain ⟨hf,hr2⟩:=fresh_inv hr
   exact fin hf hr2
 | [],_,_::_,_,_,_,_,_,_,_,hk=>by simp [collectCs] at hk
 | .imm _::_,_,[],_,_,_,_,_,_,_,hk=>by simp [collectCs] at hk
 | .own .. :: _,_,[],_,_,_,_,_,_,_,hk=>by simp [collectCs] at hk
theorem collect_ok {α:Type} {sl:Nat→AV}:∀ {hs:List Keep} {p:Prot} {st:Nat→Blk} {L:List Nat},SInv B M w0 p0 w p g st→(∀ t,RepV w p g (used st) (a.tmps.getD t undef) (sl t)) →
  ∀ {kk:List AV→Option α} {R:α},collectL E sl hs st L kk=some R→∃ l,kk l=some R∧∀ {fr:Fr} {g':Nat→Value} {φ:Nat→Option Nat},CR H B M w0 p0 w p g st L a fr g' φ→∀ {β:Type} {k2:Fr→Option β} {R':β},restore E hs l fr k2=some R' →
   ∃ fr2 p2 st2 L2 g2 φ2,k2 fr2=some R'∧CR H B M w0 p0 w p2 g st2 L2 a fr2 g2 φ2∧∀ β,p β≤p2 β
 | [],p,st,L,hS,hsrc,kk,R,hk=>by
  refine ⟨[],hk,fun {fr g' φ} h {β k2 R'} hr=> ?_⟩
  simp only [restore] at hr
  obtain ⟨_,hr⟩:=onNil_inv hr
  exact ⟨fr,p,st,L,g',φ,hr,h,fun _=>Nat.le_refl _⟩
 | .val s ty::hs,p,st,L,hS,hsrc,kk,R,hk=>by
  simp only [collectL,collect1] at hk
  obtain ⟨i,hi,hk1⟩:=bind_inv hk
  obtain ⟨x,st1,fp,hk2,loc⟩:=(loc_out i (sl s)).go hk1
  have ht:=loc.here _ trip
  obtain ⟨x',st1',fp',p1,e,hs1,hm1,hr1⟩:=sim_out hS (hsrc s) ht
  cases e
  obtain ⟨hc,hk3⟩:=chk_inv hk2
  have hL:∀ k∈L,st1 k=st k:=fun k hk=>loc.eff k fun hw=>by
   have:=List.all_eq_true.1 hc k hw
   simp at this;exact this hk
  have hsrc1:∀ t,RepV w p1 g (used st1) (a.tmps.getD t undef) (sl t):=fun t=>hm1.repV (hsrc t)
  cases hag:isAggK i.kind with
  | true =>
   rw [hag] at hk3
   obtain ⟨cs,rfl,hlen⟩:=out_agg ht hag
   obtain ⟨l,hkl,hrest⟩:=collect_ok hs1 hsrc1 hk3
   refine ⟨cs++l,hkl,fun {fr g' φ} h {β k2 R'} hr=> ?_⟩
   simp only [restore,hi,Option.bind_some,hag] at hr
   obtain ⟨u,v,e,hl,hr2⟩:=takeCs_inv hr
   obtain ⟨rfl,rfl⟩:=List.append_inj e (by rw [hl];exact hlen)
   obtain ⟨fr2,p2,st2,L2,g2,φ2,r1,r2,r3⟩:=hrest ((h.pub hs1 hm1.prot hL).slot (s:=s) (v := .agg cs) hr1.v) hr2
   exact ⟨fr2,p2,st2,L2,g2,φ2,r1,r2,fun β=>Nat.le_trans (hm1.prot β) (r3 β)⟩
  | false =>
   rw [hag] at hk3
   obtain ⟨l,hkl,hrest⟩:=collect_ok hs1 hsrc1 hk3
   refine ⟨[x]++l,hkl,fun {fr g' φ} h {β k2 R'} hr=> ?_⟩
   simp only [restore,hi,Option.bind_some,hag] at hr
   split at hr
   ·simp only [Zx,Zy,onCons] at hr
    have hr2:=norm1_inv hr
    obtain ⟨fr2,p2,st2,L2,g2,φ2,r1,r2,r3⟩:=hrest ((h.pub hs1 hm1.prot hL).slot (s:=s) (v:=x) hr1.v) hr2
    exact ⟨fr2,p2,st2,L2,g2,φ2,r1,r2,fun β=>Nat.le_trans (hm1.prot β) (r3 β)⟩
   ·cases hr
 | .rowB s e pb::hs,p,st,L,hS,hsrc,kk,R,hk=>by
  simp only [collectL,collect1] at hk
  have hv:=hsrc s
  split at hk
  ·rename_i hsl
   rw [hsl] at hv
   obtain ⟨x,hx⟩:=hv.nils
   obtain ⟨l,hkl,hrest⟩:=collect_ok hS hsrc hk
   refine ⟨[.ownB []]++l,hkl,fun {fr g' φ} h {β k2 R'} hr=> ?_⟩
   simp only [restore,Zx,Zy,onCons,AV.onOwnB] at hr
   obtain ⟨hf,hr2⟩:=fresh_inv hr
   exact hrest (h.addRow (b := .rowB e [] pb) (ok:=none) hx ⟨_,_,_,rfl⟩ hf trivial (fun _ => .inl ⟨rfl,rfl,x,rfl⟩) (fun k hk=>by cases hk) (fun _ hk=>hk) (fun hb=>by cases hb)) hr2
  ·rename_i r hsl
   rw [hsl] at hv
   obtain ⟨hu,hx,hx2⟩:=hv.row
   split at hk
   ·rename_i e' l q hst
    obtain ⟨hc,hk1⟩:=chk_inv hk
    simp only [Zw] at hc
    have hee:e=e':=Zz hc.1.1
    subst hee
    have hnm:=not_mem_of hc.2
    obtain ⟨l',hkl,hrest⟩:=collect_ok hS hsrc hk1
    refine ⟨[.ownB l]++l',hkl,fun {fr g' φ} h {β k2 R'} hr=> ?_⟩
    simp only [restore,Zx,Zy,onCons,AV.onOwnB] at hr
    obtain ⟨hf,hr2⟩:=fresh_inv hr
    exact hrest (h.addRow (b := .rowB e l pb) (L':=r::L) (ok:=some r) hx hx2 hf trivial (fun _ => .inr ⟨r,q,rfl,rfl,hst,fun hp=>by
     have:=hc.1.2;rw [hp] at this;simpa using this⟩) (fun k hk=>by cases hk;exact ⟨hnm,by simp⟩) (fun k hk=>by simp [hk]) (fun hb=>by cases hb)) hr2
   ·cases hk
  ·cases hk
 | .rowL s e z pb::hs,p,st,L,hS,hsrc,kk,R,hk=>by
  simp only [collectL,collect1] at hk
  have hv:=hsrc s
  split at hk
  ·rename_i hsl
   rw [hsl] at hv
   obtain ⟨x,hx⟩:=hv.nils
   obtain ⟨hz,hk⟩:=chk_inv hk
   obtain ⟨l,hkl,hrest⟩:=collect_ok hS hsrc hk
   refine ⟨[.ownL []]++l,hkl,fun {fr g' φ} h {β k2 R'} hr=> ?_⟩
   simp only [restore,Zx,Zy,onCons,AV.onOwnL] at hr
   obtain ⟨hf,hr2⟩:=fresh_inv hr
   exact hrest (h.addRow (b := .rowL e z [] pb) (ok:=none) hx ⟨_,_,_,rfl⟩ hf trivial (fun _ => .inl ⟨rfl,rfl,by simpa using hz,x,rfl⟩) (fun k hk=>by cases hk) (fun _ hk=>hk) (fun hb=>by cases hb)) hr2
  ·rename_i r hsl
   rw [hsl] at hv
   obtain ⟨hu,hx,hx2⟩:=hv.row
   split at hk
   ·rename_i e' z' l q hst
    obtain ⟨hc,hk1⟩:=chk_inv hk
    simp only [Zw] at hc
    have hee:e=e':=Zz hc.1.1.1
    have hzz:z=z':=Zz hc.1.1.2
    subst hee
    subst hzz
    have hnm:=not_mem_of hc.2
    obtain ⟨l',hkl,hrest⟩:=collect_ok hS hsrc hk1
    refine ⟨[.ownL l]++l',hkl,fun {fr g' φ} h {β k2 R'} hr=> ?_⟩
    simp only [restore,Zx,Zy,onCons,AV.onOwnL] at hr
    obtain ⟨hf,hr2⟩:=fresh_inv hr
    exact hrest (h.addRow (b := .rowL e z l pb) (L':=r::L) (ok:=some r) hx hx2 hf trivial (fun _ => .inr ⟨r,q,rfl,rfl,hst,fun hp=>by
     have:=hc.1.2;rw [hp] at this;simpa using this⟩) (fun k hk=>by cases hk;exact ⟨hnm,by simp⟩) (fun k hk=>by simp [hk]) (fun hb=>by cases hb)) hr2
   ·cases hk
  ·cases hk
 | .psl s b offs::hs,p,st,L,hS,hsrc,kk,R,hk=>by
  simp only [collectL,collect1] at hk
  have hv:=hsrc s
  split at hk
  ·rename_i b' offs' hsl
   rw [hsl] at hv
   obtain ⟨hu,β0,b1,cap,hg,hx,hcell⟩:=hv.psl
   obtain ⟨hc,hk1⟩:=chk_inv hk
   simp only [Zw,beq_iff_eq] at hc
   have hbb:b=b':=Zz hc.1
   have hoo:offs=offs':=hc.2
   subst hbb
   subst hoo
   obtain ⟨l',hkl,hrest⟩:=collect_ok hS hsrc hk1
   refine ⟨[]++l',hkl,fun {fr g' φ} h {β k2 R'} hr=> ?_⟩
   simp only [restore,Zy] at hr
   split at hr
   ·rename_i cs' hb
    have hφ:=h.own b (by rw [hb];rfl)
    have hgb:g' b=g b:=by
     have ht:=h.tgt b (by rw [hb];trivial)
     rw [hφ,hb] at ht
     obtain ⟨k,cs,β1,c,e,h1,h2,_⟩:=ht;cases h1;exact h2
    exact hrest (h.slot (by rw [hx];exact RepC.v (.psl (by unfold used;rw [hb];simp) (hgb.trans hg) hcell))) hr
   ·cases hr
  ·cases hk
 | .ptr s b off::hs,p,st,L,hS,hsrc,kk,R,hk=>by
  simp only [collectL,collect1] at hk
  have hv:=hsrc s
  split at hk
  ·rename_i b' off' hsl
   rw [hsl] at hv
   obtain ⟨hu,β0,hg,hx⟩:=hv.ptr
   obtain ⟨hc,hk1⟩:=chk_inv hk
   simp only [Zw] at hc
   have hbb:b=b':=Zz hc.1
   have hoo:off=off':=Zz hc.2
   subst hbb
   subst hoo
   obtain ⟨l',hkl,hrest⟩:=collect_ok hS hsrc hk1
   refine ⟨[]++l',hkl,fun {fr g' φ} h {β k2 R'} hr=> ?_⟩
   have go:(fr.st b).isBlock=true→CR H B M w0 p0 w p g st L a ⟨upd fr.slots s (.ptr b off),fr.st⟩ g' φ:=by
    intro hb
    have hfr:fr.st b ≠ .free:=fun e=>by rw [e] at hb;cases hb
    have hφ:=h.own b hb
    have hgb:g' b=g b:=by
     have ht:=h.tgt b (by cases hbb:fr.st b<;>first | trivial | (rw [hbb] at hb;cases hb))
     rw [hφ] at ht
     cases hbb:fr.st b with
     | cells cs'=>rw [hbb] at ht;obtain ⟨k,cs,β1,c,e,h1,h2,_⟩:=ht;cases h1;exact h2
     | barr l q=>rw [hbb] at ht;obtain ⟨k,q',h1,h2,_⟩:=ht;cases h1;exact h2
     | free=>rw [hbb] at hb;cases hb
     | dead=>rw [hbb] at hb;cases hb
     | rowB _ _ _=>rw [hbb] at hb;cases hb
     | rowL _ _ _ _=>rw [hbb] at hb;cases hb
    exact h.slot (by rw [hx];exact RepC.v (.ptr hfr (hgb.trans hg)))
   simp only [restore,Zy] at hr
   split at hr
   ·rename_i cs' hb;exact hrest (go (by rw [hb];rfl)) hr
   ·rename_i l q hb;exact hrest (go (by rw [hb];rfl)) hr
   ·cases hr
  ·cases hk
 | .cells b cts::hs,p,st,L,hS,hsrc,kk,R,hk=>by
  simp only [collectL,collect1] at hk
  split at hk
  ·rename_i cs hst
   obtain ⟨x,st1,fp,hk2,loc⟩:=(loc_outCs cts cs).go hk
   have ht:=loc.here _ trip
   have hb:=hS.blk b
   rw [hst] at hb
   obtain ⟨β0,c,e,h1,h2,h3,h4,h5⟩:=hb
   obtain ⟨x',st1',fp',p1,ee,hs1,hm1,hr1,hp1⟩:=sim_outCs' hS h4 ht
   cases ee
   obtain ⟨hc,hk3⟩:=chk_inv hk2
   simp only [Zw] at hc
   have hL:∀ k∈L,st1 k=st k:=fun k hk=>loc.eff k fun hw=>by
    have:=List.all_eq_true.1 hc.1 k hw
    simp at this;exact this hk
   have hnm:=not_mem_of hc.2
   have hsrc1:∀ t,RepV w p1 g (used st1) (a.tmps.getD t undef) (sl t):=fun t=>hm1.repV (hsrc t)
   obtain ⟨l,hkl,hrest⟩:=collect_ok hs1 hsrc1 hk3
   refine ⟨x++l,hkl,fun {fr g' φ} h {β k2 R'} hr=> ?_⟩
   simp only [restore] at hr
   obtain ⟨u,v,e',hl,hr2⟩:=takeCs_inv hr
   obtain ⟨rfl,rfl⟩:=List.append_inj e' (by rw [hl];exact outCs_len ht)
   obtain ⟨hf,hr3⟩:=freshB_inv hr2
   obtain ⟨fr2,p2,st2,L2,g2,φ2,r1,r2,r3⟩:=hrest ((h.pub hs1 hm1.prot hL).add (b := .cells x) (ok:=some b) (gv:=g b) (L':=b::L) hf trivial (fun _=>⟨b,cs,β0,c,e,rfl,rfl,hp1 b cs hst,h1,h3,hr1.imp fun _ _ => .imm⟩) (fun k hk=>by cases hk;exact ⟨hnm,by simp⟩) (fun k hk=>by simp [hk]) (fun _=>rfl) (fun _=>rfl)) hr3
   exact ⟨fr2,p2,st2,L2,g2,φ2,r1,r2,fun β=>Nat.le_trans (hm1.prot β) (r3 β)⟩
  ·cases hk
 | .barr b pb::hs,p,st,L,hS,hsrc,kk,R,hk=>by
  simp only [collectL,collect1] at hk
  split at hk
  ·rename_i l q hst
   obtain ⟨hc,hk1⟩:=chk_inv hk
   simp only [Zw] at hc
   have hnm:=not_mem_of hc.2
   obtain ⟨l',hkl,hrest⟩:=collect_ok hS hsrc hk1
   refine ⟨[.bs l]++l',hkl,fun {fr g' φ} h {β k2 R'} hr=> ?_⟩
   simp only [restore,Zx,Zy,onCons,AV.onBs] at hr
   obtain ⟨hf,hr2⟩:=freshB_inv hr
   exact hrest (h.add (b := .barr l pb) (ok:=some b) (gv:=g b) (L':=b::L) hf trivial (fun _=>⟨b,q,rfl,rfl,hst,fun hp=>by have:=hc.1;rw [hp] at this;simpa using this⟩) (fun k hk=>by cases hk;exact ⟨hnm,by simp⟩) (fun k hk=>by simp [hk]) (fun _=>rfl) (fun _=>rfl)) hr2
  ·cases hk
 | .cellsR b kcs::hs,p,st,L,hS,hsrc,kk,R,hk=>by
  simp only [collectL,collect1] at hk
  split at hk
  ·rename_i cs hst
   have hb:=hS.blk b
   rw [hst] at hb
   obtain ⟨β0,c,e,h1,h2,h3,h4,h5⟩:=hb
   obtain ⟨x,st1,L1,p1,hk2,hs1,hm1,hp1,hL1,hcells⟩:=collectCs_ok (H:=H) (a:=a) (sl:=sl) hS h4 hk
   obtain ⟨hc,hk3⟩:=chk_inv hk2
   have hnm:=not_mem_of hc
   have hsrc1:∀ t,RepV w p1 g (used st1) (a.tmps.getD t undef) (sl t):=fun t=>hm1.repV (hsrc t)
   obtain ⟨l,hkl,hrest⟩:=collect_ok hs1 hsrc1 hk3
   refine ⟨x++l,hkl,fun {fr g' φ} h {β k2 R'} hr=> ?_⟩
   simp only [restore] at hr
   obtain ⟨cs2,fr2,g2,φ2,hr2,hcr,hcc,hgrown⟩:=hcells h hr
   obtain ⟨hf,hr3⟩:=freshB_inv hr2
   obtain ⟨fr3,p3,st3,L3,g3,φ3,r1,r2,r3⟩:=hrest (hcr.add (b := .cells cs2) (ok:=some b) (gv:=g b) (L':=b::L1) hf trivial (fun hmo=>⟨b,cs,β0,c,e,rfl,rfl,hp1 b cs hst,h1,h3,hcc.imp fun _ _=>hmo.repC⟩) (fun k hk=>by cases hk;exact ⟨hnm,by simp⟩) (fun k hk=>by simp [hk]) (fun _=>rfl) (fun _=>rfl)) hr3
   exact ⟨fr3,p3,st3,L3,g3,φ3,r1,r2,fun β=>Nat.le_trans (hm1.prot β) (r3 β)⟩
  ·cases hk
end
end Go.Abs
