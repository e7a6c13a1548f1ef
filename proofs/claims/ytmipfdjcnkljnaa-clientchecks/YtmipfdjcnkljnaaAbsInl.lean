/- Regions whose order is drawn: whatever the order, they come to the same frame. -/
import Derived.Test.YtmipfdjcnkljnaaAbsLoc6
import Derived.Test.YtmipfdjcnkljnaaAbsFn2
open List renaming mem_cons_self→Zz,mem_cons_of_mem→Zy,map_cons→Zw
open Bool renaming and_eq_true→Zx
namespace Go.Abs
set_option linter.unusedVariables false
section
variable {E:Env} {rts:Nat→Option (List Nat)} {n:Nat} {all:List Oper}
theorem evalO_sl {sl sl2:Nat→AV} {s:Nat→Blk} {x:Operand} (h:∀ t,x = .tmp t→sl t=sl2 t):evalO E ⟨sl,s⟩ x=evalO E ⟨sl2,s⟩ x:=by
 cases x with
 | tmp t=>simp only [evalO];rw [h t rfl]
 | _=>rfl
theorem evalAll_sl {sl sl2:Nat→AV} {s:Nat→Blk}:∀ {xs:List Operand},(∀ x∈xs,evalO E ⟨sl,s⟩ x=evalO E ⟨sl2,s⟩ x)→evalAll E ⟨sl,s⟩ xs=evalAll E ⟨sl2,s⟩ xs
 | [],_=>rfl
 | x::r,h=>by simp only [evalAll];rw [h x (by simp),evalAll_sl fun y hy=>h y (by simp [hy])]
theorem evalParts_sl {sl sl2:Nat→AV} {s:Nat→Blk}:∀ {xs:List (Nat×Operand)},(∀ x∈xs.map (·.2),evalO E ⟨sl,s⟩ x=evalO E ⟨sl2,s⟩ x)→evalParts E ⟨sl,s⟩ xs=evalParts E ⟨sl2,s⟩ xs
 | [],_=>rfl
 | (i,x)::r,h=>by simp only [evalParts];rw [h x (by simp),evalParts_sl fun y hy=>h y (by simp only [Zw,List.mem_cons];exact .inr hy)]
theorem doOp_sl {α:Type} {sl sl2:Nat→AV} {s:Nat→Blk} {o:Oper} {k:Ret α} (h:∀ t∈slotsOf o,sl2 t=sl t):doOp E rts ⟨sl2,s⟩ o k=doOp E rts ⟨sl,s⟩ o k:=by
 have he:∀ x∈o.op.operands,evalO E ⟨sl2,s⟩ x=evalO E ⟨sl,s⟩ x:=fun x hx=>evalO_sl fun t ht=>h t (by
  subst ht;exact List.mem_filterMap.2 ⟨.tmp t,by simpa using hx,rfl⟩)
 clear h
 obtain ⟨dst,op,type,pos,after,guard⟩:=o
 cases op<;>simp only [Op.operands] at he<;>simp only [doOp]
 case move x=>rw [he x (by simp)]
 case assign x=>rw [he x (by simp)]
 case pick c a b=>rw [he c (by simp),he a (by simp),he b (by simp)]
 case alloc e=>rfl
 case box e x=>rw [he x (by simp)];rfl
 case build t ps=>rw [evalParts_sl fun x hx=>he x (by simpa using hx)];rfl
 case buildSlice t len ps=>rw [evalParts_sl fun x hx=>he x (by simpa using hx)];rfl
 case makeSlice t l c=>rw [he l (by simp),he c (by simp)];rfl
 case load t a=>rw [he a (by simp)];rfl
 case store t a x=>rw [he a (by simp),he x (by simp)];rfl
 case nilCheck x=>rw [he x (by simp)]
 case binOp op t x y z=>rw [he x (by simp),he y (by simp)]
 case unOp op t x=>rw [he x (by simp)]
 case convert a d x=>rw [he x (by simp)];rfl
 case slice t x lo hi mx =>
  have hlo:lo.map (evalO E ⟨sl2,s⟩)=lo.map (evalO E ⟨sl,s⟩):=by
   cases lo with
   | none=>rfl
   | some y=>simp only [Option.map_some];rw [he y (by simp)]
  have hhi:hi.map (evalO E ⟨sl2,s⟩)=hi.map (evalO E ⟨sl,s⟩):=by
   cases hi with
   | none=>rfl
   | some y=>simp only [Option.map_some];rw [he y (by simp)]
  have hmx:mx.map (evalO E ⟨sl2,s⟩)=mx.map (evalO E ⟨sl,s⟩):=by
   cases mx with
   | none=>rfl
   | some y=>simp only [Option.map_some];rw [he y (by simp)]
  rw [he x (by simp),hlo,hhi,hmx]
  rfl
 case fieldAddr t x f=>rw [he x (by simp)];rfl
 case field t x f=>rw [he x (by simp)]
 case indexAddr t x ix=>rw [he x (by simp),he ix (by simp)];rfl
 case index t x ix=>rw [he x (by simp),he ix (by simp)];rfl
 case makeFunc fn fs cs =>
  rw [evalAll_sl fun x hx=>he x (by simp only [Array.mem_append];left;simpa using hx),evalAll_sl fun x hx=>he x (by simp only [Array.mem_append];right;simpa using hx)]
 case extract x j=>rw [he x (by simp)]
 case call c =>
  have hargs:evalAll E ⟨sl2,s⟩ c.args.toList=evalAll E ⟨sl,s⟩ c.args.toList:=evalAll_sl fun x hx=>he x (by simp only [Call.operands,Array.mem_append];right;simpa using hx)
  split
  ·rw [hargs];rfl
  ·rw [hargs];rfl
  ·rw [hargs]
  ·rw [hargs]
  ·rw [hargs];rfl
  ·rename_i s hcal
   rw [hargs,he (.tmp s) (by simp [Call.operands,hcal])];rfl
  ·rfl
structure Eff where
 v:AV
 st:Nat→Blk
 fp:FP
def putS (sl:Nat→AV) (d:Option Nat) (v:AV):Nat→AV:=match d with
 | some t=>upd sl t v
 | none=>sl
def Eff.on (e:Eff) (o:Oper) (fr:Fr):Fr:=⟨putS fr.slots o.dst e.v,merge e.fp.wr e.st fr.st⟩
def Agree (all:List Oper) (o:Oper) (fp:FP) (fr fr2:Fr):Prop:=(∀ t∈looks all o,fr2.slots t=fr.slots t)∧∀ x∈fp.rd,fr2.st x=fr.st x
variable (E rts n all) in
def Step (o:Oper) (e:Eff) (fr:Fr):Prop:=∀ fr2,Agree all o e.fp fr fr2→∀ (β:Type) (k:Fr→FP→Option β),stepOp E rts n all fr2 o k=k (e.on o fr2) e.fp
theorem Agree.refl {o:Oper} {fp:FP} {fr:Fr}:Agree all o fp fr fr:=⟨fun _ _=>rfl,fun _ _=>rfl⟩
theorem Step.congr {o:Oper} {e:Eff} {fr fr':Fr} (h:Step E rts n all o e fr) (ha:Agree all o e.fp fr fr'):Step E rts n all o e fr' :=
 fun fr2 h2 β k=>h fr2 ⟨fun t ht=>(h2.1 t ht).trans (ha.1 t ht),fun x hx=>(h2.2 x hx).trans (ha.2 x hx)⟩ β k
theorem putSlot_det {α:Type} {fr:Fr} {d:Option Nat} {v:AV} {st:Nat→Blk} {k:Fr→Option α} {r:α} (h:putSlot fr n d v st k=some r) :
  k ⟨putS fr.slots d v,st⟩=some r∧∀ (fr2:Fr) (st2:Nat→Blk) (β:Type) (k2:Fr→Option β),putSlot fr2 n d v st2 k2=k2 ⟨putS fr2.slots d v,st2⟩:=by
 unfold putSlot at h
 cases d with
 | none=>exact ⟨h,fun _ _ _ _=>rfl⟩
 | some t =>
  obtain ⟨hb,h1⟩:=bif_inv h
  exact ⟨h1,fun _ _ _ _=>by simp only [putSlot,hb,cond_true,putS]⟩
theorem run_loc {α:Type} {fr:Fr} {o:Oper} {k:Fr→FP→Option α} {r:α} (h:(doOp E rts fr o fun v st fp=>putSlot fr n o.dst v st fun fr'=>k fr' fp)=some r) :
  ∃ e:Eff,k (e.on o fr) e.fp=some r∧∀ fr2:Fr,(∀ t∈slotsOf o,fr2.slots t=fr.slots t)→(∀ x∈e.fp.rd,fr2.st x=fr.st x)→∀ (β:Type) (k2:Fr→FP→Option β),
   (doOp E rts fr2 o fun v st fp=>putSlot fr2 n o.dst v st fun fr'=>k2 fr' fp)=k2 (e.on o fr2) e.fp:=by
 obtain ⟨sl,st⟩:=fr
 obtain ⟨v,st',fp,h1,l⟩:=(loc_doOp E sl rts o).go h
 obtain ⟨h2,hd⟩:=putSlot_det h1
 refine ⟨⟨v,st',fp⟩,?_,fun fr2 hs hx β k2=> ?_⟩
 ·have:merge fp.wr st' st=st':=merge_self l.eff
  simp only [Eff.on,this]
  exact h2
 ·obtain ⟨sl2,st2⟩:=fr2
  rw [doOp_sl hs]
  have hr:=l.run st2 hx β fun v st fp=>putSlot ⟨sl2,st2⟩ n o.dst v st fun fr'=>k2 fr' fp
  rw [hr,hd]
  rfl
theorem step_loc {α:Type} {fr:Fr} {o:Oper} {k:Fr→FP→Option α} {r:α} (h:stepOp E rts n all fr o k=some r):∃ e:Eff,k (e.on o fr) e.fp=some r∧Step E rts n all o e fr:=by
 unfold stepOp at h
 split at h
 ·rename_i hg
  obtain ⟨e,h1,h2⟩:=run_loc h
  refine ⟨e,h1,fun fr2 ha β k2=> ?_⟩
  simp only [stepOp,hg]
  exact h2 fr2 (fun t ht=>ha.1 t (List.mem_append.2 (.inl ht))) ha.2 β k2
 ·rename_i j want hg
  split at h
  ·cases h
  ·rename_i g hgs
   have hlook:g∈looks all o:=by
    simp only [looks,hg,hgs]
    exact List.mem_append.2 (.inr (by simp))
   have skip:∀ (w:Bool),(putSlot fr n o.dst (.tup []) fr.st fun fr'=>k fr' .none)=some r→∃ e:Eff,k (e.on o fr) e.fp=some r∧∀ (fr2:Fr) (β:Type) (k2:Fr→FP→Option β),(putSlot fr2 n o.dst (.tup []) fr2.st fun fr'=>k2 fr' .none)=k2 (e.on o fr2) e.fp:=by
    intro _ hp
    obtain ⟨h2,hd⟩:=putSlot_det hp
    refine ⟨⟨.tup [],fr.st,.none⟩,?_,fun fr2 β k2=> ?_⟩
    ·simp only [Eff.on,FP.none,merge_nil];exact h2
    ·rw [hd];simp only [Eff.on,FP.none,merge_nil]
   rcases onGuard_inv h with ⟨b,hb,h1⟩ | ⟨hb,h1⟩
   case inr =>
    obtain ⟨e,h2,h3⟩:=skip true h1
    refine ⟨e,h2,fun fr2 ha β k2=> ?_⟩
    have h4:=(ha.1 g hlook).trans hb
    simp only [stepOp,hg,hgs,h4,AV.onGuard]
    exact h3 fr2 β k2
   have hu:(⟨upd fr.slots g (.bool b),fr.st⟩:Fr)=fr:=by
    obtain ⟨sl,st⟩:=fr
    simp only [Fr.mk.injEq,and_true]
    exact funext (upd_self hb)
   have hrun:∀ fr2,fr2.slots g = .bool b→(⟨upd fr2.slots g (.bool b),fr2.st⟩:Fr)=fr2:=fun fr2 h2=>by
    obtain ⟨sl,st⟩:=fr2
    simp only [Fr.mk.injEq,and_true]
    exact funext (upd_self h2)
   cases b<;>cases want<;>simp only [sel,cond_true,cond_false,hu] at h1
   ·obtain ⟨e,h2,h3⟩:=run_loc h1
    refine ⟨e,h2,fun fr2 ha β k2=> ?_⟩
    have h4:=(ha.1 g hlook).trans hb
    simp only [stepOp,hg,hgs,h4,AV.onGuard,sel,cond_false,hrun fr2 h4]
    exact h3 fr2 (fun t ht=>ha.1 t (List.mem_append.2 (.inl ht))) ha.2 β k2
   ·obtain ⟨e,h2,h3⟩:=skip true h1
    refine ⟨e,h2,fun fr2 ha β k2=> ?_⟩
    have h4:=(ha.1 g hlook).trans hb
    simp only [stepOp,hg,hgs,h4,AV.onGuard,sel,cond_false,hrun fr2 h4]
    exact h3 fr2 β k2
   ·obtain ⟨e,h2,h3⟩:=skip true h1
    refine ⟨e,h2,fun fr2 ha β k2=> ?_⟩
    have h4:=(ha.1 g hlook).trans hb
    simp only [stepOp,hg,hgs,h4,AV.onGuard,sel,cond_true,hrun fr2 h4]
    exact h3 fr2 β k2
   ·obtain ⟨e,h2,h3⟩:=run_loc h1
    refine ⟨e,h2,fun fr2 ha β k2=> ?_⟩
    have h4:=(ha.1 g hlook).trans hb
    simp only [stepOp,hg,hgs,h4,AV.onGuard,sel,cond_true,hrun fr2 h4]
    exact h3 fr2 (fun t ht=>ha.1 t (List.mem_append.2 (.inl ht))) ha.2 β k2
theorem putS_at {sl:Nat→AV} {d:Option Nat} {v:AV} {t:Nat} (h:d≠some t):putS sl d v t=sl t:=by
 cases d with
 | none=>rfl
 | some d=>exact upd_ne _ _ (fun e=>h (by rw [e]))
theorem putS_comm {sl:Nat→AV} {d d':Option Nat} {v v':AV} (h:∀ t,d=some t→d'≠some t):putS (putS sl d v) d' v'=putS (putS sl d' v') d v:=by
 cases d with
 | none=>rfl
 | some t =>
  cases d' with
  | none=>rfl
  | some t' =>
   have hne:t≠t':=fun e=>h t rfl (by rw [e])
   funext x
   simp only [putS]
   by_cases e1:x=t
   ·subst e1;rw [upd_ne _ _ hne,upd_same,upd_same]
   ·by_cases e2:x=t'
    ·subst e2;rw [upd_same,upd_ne _ _ e1,upd_same]
    ·rw [upd_ne _ _ e2,upd_ne _ _ e1,upd_ne _ _ e1,upd_ne _ _ e2]
theorem merge_off {wr:List Nat} {s1 s2:Nat→Blk} {x:Nat} (h:x ∉ wr):merge wr s1 s2 x=s2 x:=by simp [merge,h]
theorem apart_spec {a b:FP} (h:a.apart b=true):(∀ x∈a.wr,x ∉ b.rd∧x ∉ b.wr)∧∀ x∈b.wr,x ∉ a.rd:=by
 simp only [FP.apart,Zx,List.all_eq_true,Bool.not_eq_true'] at h
 refine ⟨fun x hx=> ?_,fun x hx=> ?_⟩
 ·have:=h.1 x hx
  simpa using this
 ·have:=h.2 x hx
  simpa using this
theorem apartS_spec {x y:Oper} (h:apartS all x y=true):(∀ d,x.dst=some d→d ∉ looks all y∧y.dst≠some d)∧∀ d,y.dst=some d→d ∉ looks all x:=by
 simp only [apartS,Zx] at h
 refine ⟨fun d hd=> ?_,fun d hd=> ?_⟩
 ·have:=h.1
  rw [hd] at this
  simpa using this
 ·have:=h.2
  rw [hd] at this
  simpa using this
theorem swap {x y:Oper} {ex ey:Eff} {fr:Fr} (hs:apartS all x y=true) (hf:ex.fp.apart ey.fp=true) (hx:Step E rts n all x ex fr) (hy:Step E rts n all y ey (ex.on x fr)) :
  Step E rts n all y ey fr∧Step E rts n all x ex (ey.on y fr)∧ex.on x (ey.on y fr)=ey.on y (ex.on x fr):=by
 obtain ⟨s1,s2⟩:=apartS_spec hs
 obtain ⟨f1,f2⟩:=apart_spec hf
 refine ⟨hy.congr ⟨fun t ht=> ?_,fun z hz=> ?_⟩,hx.congr ⟨fun t ht=> ?_,fun z hz=> ?_⟩,?_⟩
 ·exact (putS_at fun e=>(s1 t e).1 ht).symm
 ·exact (merge_off fun hw=>(f1 z hw).1 hz).symm
 ·exact putS_at fun e=>s2 t e ht
 ·exact merge_off fun hw=>f2 z hw hz
 ·simp only [Eff.on,Fr.mk.injEq]
  refine ⟨(putS_comm fun t ht=>(s1 t ht).2).symm,?_⟩
  funext z
  simp only [merge]
  by_cases h1:z∈ex.fp.wr
  ·simp [h1,(f1 z h1).2]
  ·simp [h1]
abbrev Done:=Nat×Oper×Eff
variable (E rts n all) in
def Runs:List Done→Fr→Fr→Prop
 | [],fr,fr'=>fr=fr'
 | t::L,fr,fr'=>Step E rts n all t.2.1 t.2.2 fr∧Runs L (t.2.2.on t.2.1 fr) fr'
theorem Runs.front:∀ {L1 L2:List Done} {t:Done} {fr fr':Fr},Runs E rts n all (L1++t::L2) fr fr'→(∀ x∈L1,apartS all x.2.1 t.2.1=true∧x.2.2.fp.apart t.2.2.fp=true)→Runs E rts n all (t::(L1++L2)) fr fr'
 | [],L2,t,fr,fr',h,_=>h
 | x::L1,L2,t,fr,fr',h,hap=>by
  obtain ⟨hx,h1⟩:=h
  obtain ⟨ht,h2⟩:=Runs.front h1 fun y hy=>hap y (Zy _ hy)
  obtain ⟨s1,s2,s3⟩:=swap (hap x (Zz ..)).1 (hap x (Zz ..)).2 hx ht
  refine ⟨s1,s2,?_⟩
  show Runs E rts n all (L1++L2) (x.2.2.on x.2.1 (t.2.2.on t.2.1 fr)) fr'
  rw [s3];exact h2
theorem exec_runs {α:Type}:∀ {os:List Oper} {fr:Fr} {k:Fr→List FP→Option α} {r:α} (m:Nat),execOps E rts n all os fr k=some r →
  ∃ (T:List Done) (fr':Fr),T.map (·.1)=List.range' m os.length∧T.map (·.2.1)=os∧Runs E rts n all T fr fr'∧k fr' (T.map (·.2.2.fp))=some r
 | [],fr,k,r,m,h=>⟨[],fr,rfl,rfl,rfl,h⟩
 | o::os,fr,k,r,m,h=>by
  rw [execOps_cons] at h
  obtain ⟨e,h1,hs⟩:=step_loc h
  obtain ⟨T,fr',t1,t2,t3,t4⟩:=exec_runs (m+1) h1
  exact ⟨(m,o,e)::T,fr',by simp [t1,List.range'_succ],by simp [t2],⟨hs,t3⟩,t4⟩
end
end Go.Abs
/- Regions whose order is drawn: whatever the order, they come to the same frame (the order itself). -/
namespace Go.Abs
set_option linter.unusedVariables false
theorem mem_ins {l:List Nat} {i j:Nat} (h:i∈ins l j):i=j∨i∈l:=by
 unfold ins at h
 cases hc:l.contains j
 ·rw [hc] at h;exact List.mem_cons.1 h
 ·rw [hc] at h;exact .inr h
theorem mem_insAll:∀ {a l:List Nat} {i:Nat},i∈a.foldl ins l→i∈a∨i∈l
 | [],_,_,h => .inr h
 | b::a,l,i,h=>by
  rw [List.foldl_cons] at h
  rcases mem_insAll h with h | h
  ·exact .inl (Zy _ h)
  ·rcases mem_ins h with rfl | h
   ·exact .inl (Zz ..)
   ·exact .inr h
theorem befores_spec {ops:List Oper} {S:Nat→Prop} (hS:∀ j o,S j→ops[j]? = some o→∀ e∈o.after.toList,Region.binds .any e=true→S e.on) :
  ∀ (j:Nat) (o:Oper) (l:List Nat),ops[j]? = some o→(befores ops)[j]? = some l→(∀ e∈o.after.toList,Region.binds .any e=true→S e.on)→∀ i∈l,S i:=by
 have inner:∀ (acc:List (List Nat)) (es:List Edge) (l0:List Nat),(∀ i∈l0,S i)→(∀ e∈es,Region.binds .any e=true→S e.on∧∀ i∈(acc[e.on]?).getD [],S i) →
   ∀ i∈es.foldl (fun l e=>if Region.binds .any e then ins (((acc[e.on]?).getD []).foldl ins l) e.on else l) l0,S i:=by
  intro acc es
  induction es with
  | nil=>intro l0 h0 _;exact h0
  | cons e es ih =>
   intro l0 h0 h
   simp only [List.foldl_cons]
   refine ih _ (fun i hi=> ?_) fun e' he' hb=>h e' (Zy _ he') hb
   split at hi
   ·rename_i hb
    obtain ⟨h1,h2⟩:=h e (Zz ..) hb
    rcases mem_ins hi with rfl | hi
    ·exact h1
    ·rcases mem_insAll hi with hi | hi
     ·exact h2 i hi
     ·exact h0 i hi
   ·exact h0 i hi
 have key:∀ (post pre:List Oper) (acc:List (List Nat)),ops=pre++post→acc.length=pre.length →
   (∀ (j:Nat) (o:Oper) (l:List Nat),ops[j]? = some o→acc[j]? = some l→(∀ e∈o.after.toList,Region.binds .any e=true→S e.on)→∀ i∈l,S i) →
   (∀ (j:Nat) (o:Oper) (l:List Nat),ops[j]? = some o→(post.foldl (fun acc o=>acc++[o.after.toList.foldl (fun l e=>if Region.binds .any e then ins (((acc[e.on]?).getD []).foldl ins l) e.on else l) []]) acc)[j]? = some l→(∀ e∈o.after.toList,Region.binds .any e=true→S e.on)→∀ i∈l,S i):=by
  intro post
  induction post with
  | nil=>intro pre acc _ _ h;exact h
  | cons p post ih =>
   intro pre acc hops hlen h
   simp only [List.foldl_cons]
   refine ih (pre++[p]) _ (by simp [hops]) (by simp [hlen]) fun j o l ho hl hpre=> ?_
   rw [List.getElem?_append] at hl
   split at hl
   ·exact h j o l ho hl hpre
   ·rename_i hj
    have hj':j=acc.length:=by
     have hlt:=(List.getElem?_eq_some_iff.1 hl).1
     simp at hlt;omega
    subst hj'
    have hp:ops[acc.length]? = some p:=by rw [hops,hlen];simp
    rw [hp] at ho
    cases ho
    simp only [Nat.sub_self,List.getElem?_cons_zero,Option.some.injEq] at hl
    subst hl
    refine inner acc _ [] (fun i hi=>by cases hi) fun e he hb=>⟨hpre e he hb,fun i hi=> ?_⟩
    cases hac:acc[e.on]? with
    | none=>rw [hac] at hi;simp at hi
    | some l' =>
     rw [hac] at hi
     simp only [Option.getD_some] at hi
     have hlt:e.on<ops.length:=by
      have:=(List.getElem?_eq_some_iff.1 hac).1
      rw [hops];simp;omega
     exact h e.on ops[e.on] l' (List.getElem?_eq_getElem hlt) hac (fun e' he' hb'=>hS e.on _ (hpre e he hb) (List.getElem?_eq_getElem hlt) e' he' hb') i hi
 exact key ops [] [] rfl rfl fun j o l _ hl=>by simp at hl
theorem OkS.drew {E:Env} {n B:Nat} {M:Nat→Prop} {w0:World} {p0:Prot} {S:World→Prot→(Nat→Value)→(Nat→Prop)→Prop} (hS:Stable S) {a:Act} {w w':World} {fr:Fr} (h:OkS E n B M w0 p0 S a w fr) (h1:w'.heap=w.heap) (h2:w'.os=w.os) (h3:w'.tape=w.tape) (h4:w'.output=w.output):OkS E n B M w0 p0 S a w' fr:=by
 obtain ⟨p,g,hi,hG,hH⟩:=h
 have hc:∀ x,w'.cell? x=w.cell? x:=fun x=>by simp [World.cell?,h1]
 have hm:Mono w p g (used fr.st) w' p g (used fr.st):=⟨fun _=>Nat.le_refl _,fun β i _=>hc _,fun _ _=>rfl,fun _ h=>h⟩
 refine ⟨p,g,⟨⟨h2.trans hi.s.os,h3.trans hi.s.tape,h4.trans hi.s.output,by rw [h1];exact hi.s.size,fun β hb hM=>by rw [h1];exact hi.s.old β hb hM,fun k=> ?_,hi.s.dist,fun β hb=>hi.s.newp β (by rw [← h1];exact hb),hi.s.oldp⟩,hi.defers,hi.size,fun t=>hm.repV (hi.slots t)⟩,hG.mono (fun _=>Nat.le_refl _) fun β i _=>hc _,hS hm hH⟩
 by_cases hl:(fr.st k).live
 ·exact (hi.s.blk k).keep hm (live_used hl) fun β _=>⟨by rw [h1],rfl⟩
 ·cases hb:fr.st k<;>first | trivial | (rw [hb] at hl;exact absurd trivial hl)
section
variable {P:Program} {E:Env} {rts:Nat→Option (List Nat)} {n B:Nat} {M:Nat→Prop} {w0:World} {p0:Prot} {S:World→Prot→(Nat→Value)→(Nat→Prop)→Prop}
theorem any_ok {ops:Array Oper} (hS:Stable S) (hty:∀ t i,E.ty t=some i→mkTI P t=some i) (hC:CallOK P E rts) {T0:List Done} (hT0:∀ t∈T0,ops[t.1]? = some t.2.1)
  (hback:∀ j o,ops[j]? = some o→∀ e∈o.after.toList,Region.binds .any e=true→e.on<j)
  (hap:∀ s∈T0,∀ t∈T0,s.1<t.1→s.1∈((befores ops.toList)[t.1]?).getD []∨(apartS ops.toList s.2.1 t.2.1=true∧s.2.2.fp.apart t.2.2.fp=true))
  {fr':Fr} {Q:Exit→Act→World→Prop} (hQ:∀ a' w',OkS E n B M w0 p0 S a' w' fr'→Q .normal a' w') :
  ∀ (fuel:Nat) (listed:Array Bool) (T:List Done) (fr:Fr) (a:Act) (w:World),listed.size=ops.size→(∀ t∈T,t∈T0)→(T.map (·.1)).Pairwise (· < ·) →
   (∀ i,i<ops.size→(listed.getD i true=false↔i∈T.map (·.1))) →
   (∀ j o,listed.getD j false=true→ops[j]? = some o→∀ e∈o.after.toList,Region.binds .any e=true→listed.getD e.on false=true) →
   T.length≤fuel→Runs E rts n ops.toList T fr fr'→OkS E n B M w0 p0 S a w fr→wpAny P .any ops Q fuel listed a w:=by
 have gd:∀ {listed:Array Bool} {i:Nat},listed.size=ops.size→i<ops.size→listed.getD i false=listed.getD i true:=by
  intro listed i hs hi
  have:i<listed.size:=by omega
  simp [Array.getD,this]
 have done:∀ {listed:Array Bool} {T:List Done},listed.size=ops.size→(∀ i,i<ops.size→(listed.getD i true=false↔i∈T.map (·.1)))→(∀ t∈T,t∈T0)→(T.map (·.1)).Pairwise (· < ·) →
   Region.ready .any ops listed=[]→T=[]:=by
  intro listed T hs hl hT hpw hr
  cases T with
  | nil=>rfl
  | cons t T =>
   exfalso
   have ho:=hT0 t (hT t (Zz ..))
   have hlt:t.1<ops.size:=(Array.getElem?_eq_some_iff.1 ho).1
   have hm:t.1∈Region.ready .any ops listed:=by
    rw [mem_ready]
    refine ⟨(hl _ hlt).2 (by simp),_,ho,fun e he hb=> ?_⟩
    have hlt2:=hback _ _ ho e (by simpa using he) hb
    have hne:e.on ∉ (t::T).map (·.1):=by
     intro hm
     simp only [Zw,List.mem_cons] at hm
     rcases hm with hm | hm
     ·omega
     ·have:t.1<e.on:=List.rel_of_pairwise_cons hpw hm
      omega
    rw [gd hs (by omega)]
    cases hx:listed.getD e.on true
    ·exact absurd ((hl _ (by omega)).1 hx) hne
    ·rfl
   rw [hr] at hm
   cases hm
 intro fuel
 induction fuel with
 | zero =>
  intro listed T fr a w hs hT hpw hl hcl hf hR hok
  have:T=[]:=List.eq_nil_of_length_eq_zero (by omega)
  subst this
  have hr:Region.ready .any ops listed=[]:=by
   refine List.eq_nil_iff_forall_not_mem.2 fun i hi=> ?_
   obtain ⟨h0,o,ho,_⟩:=mem_ready.1 hi
   have:=(hl i (Array.getElem?_eq_some_iff.1 ho).1).1 h0
   simp at this
  refine ⟨hr,?_⟩
  have hR':fr=fr':=hR
  subst hR'
  exact hQ a w hok
 | succ fuel ih =>
  intro listed T fr a w hs hT hpw hl hcl hf hR hok
  refine ⟨fun hr=> ?_,fun i hi=> ?_⟩
  ·have:=done hs hl hT hpw hr
   subst this
   have hR':fr=fr':=hR
   subst hR'
   exact hQ a w hok
  ·obtain ⟨h0,o,ho,hpre⟩:=mem_ready.1 hi
   have hlt:i<ops.size:=(Array.getElem?_eq_some_iff.1 ho).1
   obtain ⟨t,ht,hti⟩:=List.mem_map.1 ((hl i hlt).1 h0)
   obtain ⟨L1,L2,rfl⟩:=List.append_of_mem ht
   have hot:=hT0 t (hT t ht)
   rw [hti,ho] at hot
   have hto:t.2.1=o:=(Option.some.inj hot).symm
   have hR1:=hR.front fun x hx=>by
    have hxt:x.1<t.1:=by
     rw [List.map_append,List.pairwise_append] at hpw
     exact hpw.2.2 x.1 (List.mem_map.2 ⟨x,hx,rfl⟩) t.1 (by simp)
    have hxT:x∈L1++t::L2:=List.mem_append.2 (.inl hx)
    rcases hap x (hT x hxT) t (hT t ht) hxt with hb | hb
    ·exfalso
     cases hbl:(befores ops.toList)[t.1]? with
     | none=>rw [hbl] at hb;simp at hb
     | some l =>
      rw [hbl] at hb
      simp only [Option.getD_some] at hb
      have:=befores_spec (ops:=ops.toList) (S:=fun j=>listed.getD j false=true) (fun j o hj ho e he hb=>hcl j o hj (by simpa using ho) e he hb) t.1 o l (by rw [hti];simpa using ho) hbl (fun e he hb=>hpre e (by simpa using he) hb) x.1 hb
      have hxlt:x.1<ops.size:=(Array.getElem?_eq_some_iff.1 (hT0 x (hT x hxT))).1
      have h1:=(hl x.1 hxlt).2 (List.mem_map.2 ⟨x,hxT,rfl⟩)
      rw [gd hs hxlt,h1] at this
      cases this
    ·exact hb
   obtain ⟨hst,hR2⟩:=hR1
   rw [hto] at hst hR2
   have hk:stepOp E rts n ops.toList fr o (fun fr fp=>some (fr,fp))=some (t.2.2.on o fr,t.2.2.fp):=hst fr Agree.refl _ _
   obtain ⟨fr1,fp1,he,hgo⟩:=step_ok hS hty hC hok hk
   have he1:fr1=t.2.2.on o fr:=by cases he;rfl
   subst he1
   have hsub:∀ x,x∈(L1++L2)→x∈L1++t::L2:=fun x hx=>by
    rcases List.mem_append.1 hx with h | h
    ·exact List.mem_append.2 (.inl h)
    ·exact List.mem_append.2 (.inr (Zy _ h))
   have hpw2:((L1++L2).map (·.1)).Pairwise (· < ·):=by
    rw [List.map_append,List.pairwise_append] at hpw ⊢
    simp only [Zw,List.pairwise_cons] at hpw
    exact ⟨hpw.1,hpw.2.1.2,fun a ha b hb=>hpw.2.2 a ha b (Zy _ hb)⟩
   have hnot:t.1 ∉ (L1++L2).map (·.1):=by
    intro hm
    rw [List.map_append,List.pairwise_append] at hpw
    simp only [Zw,List.pairwise_cons] at hpw
    rw [List.map_append] at hm
    rcases List.mem_append.1 hm with h | h
    ·have:=hpw.2.2 t.1 h t.1 (Zz ..);omega
    ·have:=hpw.2.1.1 t.1 h;omega
   refine hgo _ Q i ho fun a' w' hok'=>ih (listed.setIfInBounds i true) (L1++L2) _ a' w' (by simpa using hs) (fun x hx=>hT x (hsub x hx)) hpw2 (fun j hj=> ?_) (fun j o' hj ho' e he hb=> ?_) (by simp at hf ⊢;omega) hR2 hok'
   ·by_cases hji:i=j
    ·subst hji
     have hil:i<listed.size:=by omega
     constructor
     ·intro h;simp [Array.getD,hil] at h
     ·intro h;rw [hti] at hnot;exact absurd h hnot
    ·rw [getD_set_ne true hji,hl j hj]
     constructor
     ·intro h
      obtain ⟨x,hx,hxj⟩:=List.mem_map.1 h
      rcases List.mem_append.1 hx with h1 | h1
      ·exact List.mem_map.2 ⟨x,List.mem_append.2 (.inl h1),hxj⟩
      ·rcases List.mem_cons.1 h1 with rfl | h2
       ·exact absurd (hti.symm.trans hxj) hji
       ·exact List.mem_map.2 ⟨x,List.mem_append.2 (.inr h2),hxj⟩
     ·intro h
      obtain ⟨x,hx,hxj⟩:=List.mem_map.1 h
      exact List.mem_map.2 ⟨x,hsub x hx,hxj⟩
   ·by_cases hji:i=j
    ·subst hji
     rw [ho] at ho'
     cases ho'
     exact getD_set_true (hpre e (by simpa using he) hb)
    ·rw [getD_set_ne false hji] at hj
     exact getD_set_true (hcl j o' hj ho' e he hb)
theorem draw_ok (hm:P.follows .mixedOrders=true) (hty:∀ t i,E.ty t=some i→mkTI P t=some i) (hC:CallOK P E rts):DrawOK P E rts:=by
 intro n B M w0 p0 S α ops id fr a w k r hS hok hk Q hQ
 obtain ⟨T,fr',t1,t2,t3,t4⟩:=exec_runs 0 hk
 obtain ⟨hind,hk1⟩:=bif_inv t4
 simp only [indep,Zx] at hind
 obtain ⟨hback,hind⟩:=hind
 have hget:∀ (j:Nat) (t:Done),T[j]? = some t→t.1=j∧ops[j]? = some t.2.1:=by
  intro j t ht
  have h1:(T.map (·.1))[j]? = some t.1:=by simp [ht]
  have h2:(T.map (·.2.1))[j]? = some t.2.1:=by simp [ht]
  rw [t1] at h1
  rw [t2] at h2
  refine ⟨?_,by simpa using h2⟩
  have h3:=(List.getElem?_eq_some_iff.1 h1).2
  simp at h3
  exact h3.symm
 have hT0:∀ t∈T,ops[t.1]? = some t.2.1:=fun t ht=>by
  obtain ⟨j,hj⟩:=List.getElem?_of_mem ht
  obtain ⟨h1,h2⟩:=hget j t hj
  rw [h1];exact h2
 have hlen:T.length=ops.size:=by
  have:=congrArg List.length t2
  simpa using this
 refine wp_region_any hm (any_ok hS hty hC hT0 (fun j o ho e he hb=> ?_) (fun s hs t ht hlt=> ?_) (hQ fr' hk1) ops.size _ T fr a _ (by simp) (fun _ h=>h) ?_ (fun i hi=> ?_) (fun j o hj=> ?_) (by omega) t3 (hok.drew hS rfl rfl rfl rfl))
 ·have hj:j<ops.toList.length:=by simpa using (Array.getElem?_eq_some_iff.1 ho).1
  have h1:=List.all_eq_true.1 hback j (List.mem_range.2 hj)
  have ho':ops.toList[j]? = some o:=by simpa using ho
  rw [ho'] at h1
  have h2:=List.all_eq_true.1 h1 e he
  rw [hb] at h2
  simpa using h2
 ·obtain ⟨i,hi⟩:=List.getElem?_of_mem hs
  obtain ⟨j,hj⟩:=List.getElem?_of_mem ht
  obtain ⟨e1,e2⟩:=hget i s hi
  obtain ⟨f1,f2⟩:=hget j t hj
  have hjl:j<ops.toList.length:=by simpa using (Array.getElem?_eq_some_iff.1 f2).1
  have h1:=List.all_eq_true.1 hind j (List.mem_range.2 hjl)
  have g1:ops.toList[j]? = some t.2.1:=by simpa using f2
  have g2:(T.map (·.2.2.fp))[j]? = some t.2.2.fp:=by simp [hj]
  have g3:ops.toList[i]? = some s.2.1:=by simpa using e2
  have g4:(T.map (·.2.2.fp))[i]? = some s.2.2.fp:=by simp [hi]
  rw [g1,g2] at h1
  simp only [indepFrom] at h1
  have h2:=List.all_eq_true.1 h1 i (List.mem_range.2 (by omega))
  rw [g3,g4] at h2
  simp only [Bool.or_eq_true,Zx] at h2
  rw [e1,f1]
  rcases h2 with h2 | h2
  ·exact .inl (by simpa using h2)
  ·exact .inr h2
 ·rw [t1];exact List.pairwise_lt_range'
 ·rw [t1]
  simp [Array.getD,hi]
 ·by_cases hj2:j<ops.size
  ·simp [Array.getD,hj2] at hj
  ·simp [Array.getD,hj2] at hj
end
end Go.Abs
/- Functions that run in their caller's store: code in which loops are run round by round, and which tells what it looked at. -/
namespace Go.Abs
set_option linter.unusedVariables false
def fpSum:List FP→FP
 | [] => .none
 | f::r=>f.add (fpSum r)
def unroll {α:Type} (body:Nat→Fr→(Ex→Fr→FP→Option α)→Option α):Nat→Nat→Fr→(Ex→Fr→FP→Option α)→Option α
 | 0,_,_,_=>none
 | m+1,kb,fr,k=>body kb fr fun e fr' f1=>e.seqK (unroll body m (kb+10000) fr' fun e2 fr2 f2=>k e2 fr2 (f1.add f2)) fun e=>k e fr' (f1.add .none)
noncomputable def execI (rts:Nat→Option (List Nat)) (n:Nat):Code→Env→(α:Type)→Fr→(Ex→Fr→FP→Option α)→Option α
 | .skip,_,_,fr,k=>k .normal fr .none
 | .label _,_,_,fr,k=>k .normal fr .none
 | .region id ops draw,E,_,fr,k=>execOps E rts n ops.toList ops.toList fr fun fr' fps=>chk (!draw||indep ops.toList fps) (k .normal fr' (fpSum fps))
 | .seq a b,E,α,fr,k=>execI rts n a E α fr fun e fr' f1=>e.seqK (execI rts n b E α fr' fun e2 fr2 f2=>k e2 fr2 (f1.add f2)) fun e=>k e fr' (f1.add .none)
 | .cond c a b,E,α,fr,k=>(evalO E fr c).bind fun v=>v.onBool fun t=>sel t (execI rts n a E α fr k) (execI rts n b E α fr k)
 | .block id a,E,α,fr,k=>execI rts n a E α fr fun e fr' f=>e.blockK id fun e=>k e fr' f
 | .loop a,E,α,fr,k=>unroll (fun kb fr k=>execI rts n a { E with kb:=kb } α fr k) 9 E.kb fr k
 | .exit id,_,_,fr,k=>k (.exit id) fr .none
 | .ret,_,_,fr,k=>k .ret fr .none
 | _,_,_,_,_=>none
def rawRes {α:Type} (E:Env) (sl:Nat→AV) (r:ResultVar) (st:Nat→Blk) (k:Ret α):Option α :=
 match r with
 | .tmp t=>k (sl t) st .none
 | .cell a t=>(E.ty t).bind fun ti=>doLoad E ⟨sl,st⟩ ti (sl a) k
def rawAll {α:Type} (E:Env) (sl:Nat→AV):List ResultVar→(Nat→Blk)→(List AV→(Nat→Blk)→FP→Option α)→Option α
 | [],st,k=>k [] st .none
 | r::rs,st,k=>rawRes E sl r st fun v st1 f1=>rawAll E sl rs st1 fun l st2 f2=>k (v::l) st2 (f1.add f2)
def AV.isW:AV→Bool
 | .agg _=>true
 | v=>v.isCell
def allW:List AV→Bool
 | []=>true
 | v::r=>v.isW&&allW r
theorem allW_mem:∀ {l:List AV},allW l=true→∀ a∈l,a.isW=true
 | v::r,h,a,ha=>by
  simp only [allW,Zx] at h
  rcases List.mem_cons.1 ha with rfl | ha
  ·exact h.1
  ·exact allW_mem h.2 a ha
def oneAV:List AV→AV
 | [v]=>v
 | vs => .tup vs
def bindArgs (args:List AV):Nat→AV:=fun i=>(args[i]?).getD .undef
noncomputable def runI (E:Env) (rts:Nat→Option (List Nat)) (fn:Func) (α:Type) (kb:Nat) (args:List AV) (st:Nat→Blk) (k:Ret α):Option α :=
 match fn.body with
 | none=>none
 | some c=>chk (Nat.ble args.length fn.ntmps) (execI rts fn.ntmps c { E with kb:=kb } α ⟨bindArgs args,st⟩ fun e fr f=>e.endK (rawAll E fr.slots fn.results.toList fr.st fun vs st2 f2=>chk (allW vs) (k (oneAV vs) st2 (f.add f2))) none)
section
variable {rts:Nat→Option (List Nat)} {n:Nat}
theorem exec_same {E:Env} {all:List Oper} {α:Type}:∀ {T:List Done} {os:List Oper} {fr fr':Fr},T.map (·.2.1)=os→Runs E rts n all T fr fr'→∀ {k:Fr→List FP→Option α},execOps E rts n all os fr k=k fr' (T.map (·.2.2.fp))
 | [],os,fr,fr',h1,h2,k=>by
  subst h1
  cases h2
  rfl
 | t::T,os,fr,fr',h1,h2,k=>by
  subst h1
  obtain ⟨hs,h3⟩:=h2
  simp only [Zw]
  rw [execOps_cons,hs fr Agree.refl,exec_same rfl h3]
theorem merge_merge {wr:List Nat} {a b c:Nat→Blk}:merge wr (merge wr a b) c=merge wr a c:=by
 funext x
 simp only [merge]
 split<;>rfl
theorem loc_stepOp (E:Env) (all:List Oper) (o:Oper) (sl:Nat→AV):IsLoc (A:=Nat→AV) (fun β s k=>stepOp E rts n all ⟨sl,s⟩ o fun fr fp=>k fr.slots fr.st fp):=by
 refine ⟨fun {α st k r} hk=> ?_⟩
 obtain ⟨e,h1,hs⟩:=step_loc hk
 refine ⟨_,_,_,h1,⟨fun x hx=>by simp [Eff.on,merge,hx],fun st2 h2 β k2=> ?_⟩⟩
 rw [hs ⟨sl,st2⟩ ⟨fun _ _=>rfl,h2⟩]
 simp only [Eff.on]
 rw [merge_merge]
theorem loc_execOps (E:Env) (all:List Oper):∀ (os:List Oper) (sl:Nat→AV),IsLoc (A:=(Nat→AV)×List FP) (fun β s k=>execOps E rts n all os ⟨sl,s⟩ fun fr fps=>k (fr.slots,fps) fr.st (fpSum fps))
 | [],sl=>(IsLoc.ret (sl,[])).of_eq fun β s k=>by simp only [execOps,fpSum]
 | o::os,sl=>by
  refine ⟨fun {α st k r} hk=> ?_⟩
  rw [execOps_cons] at hk
  obtain ⟨sl1,st1,f1,hk1,l1⟩:=(loc_stepOp E all o sl).go (k:=fun sl1 st1 f1=>execOps E rts n all os ⟨sl1,st1⟩ fun fr2 fps=>k (fr2.slots,f1::fps) fr2.st (fpSum (f1::fps))) hk
  obtain ⟨⟨sl2,fps⟩,st2,f2,hk2,l2⟩:=(loc_execOps E all os sl1).go (k:=fun x st2 f2=>k (x.1,f1::x.2) st2 (f1.add f2)) hk1
  refine ⟨_,_,_,hk2,?_⟩
  have:=Loc.bind (f:=fun (a:Nat→AV) (c:(Nat→AV)×List FP)=>(c.1,f1::c.2)) l1 (U:=fun a β s k=>execOps E rts n all os ⟨a,s⟩ fun fr fps=>k (fr.slots,fps) fr.st (fpSum fps)) l2
  refine ⟨this.eff,fun s hs β k2=> ?_⟩
  have h2:=this.run s hs β k2
  rw [← h2,execOps_cons]
  have h3:=l1.run s (fun x hx=>hs x (List.mem_append.2 (.inl hx))) β
  have e1:=h3 fun a s1 f=>execOps E rts n all os ⟨a,s1⟩ fun fr2 fps=>k2 (fr2.slots,f::fps) fr2.st (fpSum (f::fps))
  have e2:=h3 fun a s1 f=>execOps E rts n all os ⟨a,s1⟩ fun fr fps=>k2 (fr.slots,f1::fps) fr.st (f.add (fpSum fps))
  simp only at e1 e2 ⊢
  rw [e1,e2]
  rfl
noncomputable abbrev codeT (rts:Nat→Option (List Nat)) (n:Nat) (c:Code) (E:Env) (sl:Nat→AV):StT (Ex×(Nat→AV)):=fun β s k=>execI rts n c E β ⟨sl,s⟩ fun e fr f=>k (e,fr.slots) fr.st f
theorem loc_next {T:(Nat→AV)→StT (Ex×(Nat→AV))} (hT:∀ sl,IsLoc (T sl)) (x:Ex×(Nat→AV)):IsLoc (A:=Ex×(Nat→AV)) (fun β s k=>x.1.seqK (T x.2 β s k) fun e=>k (e,x.2) s .none):=by
 obtain ⟨e,sl⟩:=x
 cases e with
 | normal=>exact hT sl
 | ret=>exact IsLoc.ret _
 | exit j=>exact IsLoc.ret _
theorem loc_unroll {body:(β:Type)→Nat→Fr→(Ex→Fr→FP→Option β)→Option β} (hb:∀ kb sl,IsLoc (A:=Ex×(Nat→AV)) (fun β s k=>body β kb ⟨sl,s⟩ fun e fr f=>k (e,fr.slots) fr.st f)):∀ (m kb:Nat) (sl:Nat→AV),IsLoc (A:=Ex×(Nat→AV)) (fun β s k=>unroll (body β) m kb ⟨sl,s⟩ fun e fr f=>k (e,fr.slots) fr.st f)
 | 0,kb,sl=>IsLoc.none.of_eq fun _ _ _=>rfl
 | m+1,kb,sl=>by
  refine (IsLoc.bind (f:=fun _ c=>c) (hb kb sl) (loc_next (fun sl=>loc_unroll hb m (kb+10000) sl))).of_eq fun β s k=> ?_
  simp only [unroll]
theorem loc_execI (c:Code):∀ (E:Env) (sl:Nat→AV),IsLoc (codeT rts n c E sl):=by
 induction c with
 | skip=>exact fun E sl=>IsLoc.ret (Ex.normal,sl)
 | label _=>exact fun E sl=>IsLoc.ret (Ex.normal,sl)
 | region id ops draw =>
  refine fun E sl=>⟨fun {α st k r} hk=> ?_⟩
  simp only [codeT,execI] at hk
  obtain ⟨⟨sl1,fps⟩,st1,f1,hk1,l1⟩:=(loc_execOps E ops.toList ops.toList sl).go (k:=fun x st1 f1=>chk (!draw||indep ops.toList x.2) (k (.normal,x.1) st1 f1)) hk
  obtain ⟨hc,hk2⟩:=chk_inv hk1
  refine ⟨_,_,_,hk2,⟨l1.eff,fun s hs β k2=> ?_⟩⟩
  have:=l1.run s hs β fun x st1 f1=>chk (!draw||indep ops.toList x.2) (k2 (.normal,x.1) st1 f1)
  simp only [codeT,execI]
  simp only at this hc
  rw [this,hc]
  rfl
 | seq a b iha ihb =>
  refine fun E sl=>(IsLoc.bind (f:=fun _ c=>c) (iha E sl) (loc_next fun sl=>ihb E sl)).of_eq fun β s k=> ?_
  simp only [codeT,execI]
 | cond c a b iha ihb =>
  refine fun E sl=>(IsLoc.ev E sl c (T:=fun v=>fun β s k=>v.onBool fun t=>sel t (codeT rts n a E sl β s k) (codeT rts n b E sl β s k)) fun v=> ?_).of_eq fun β s k=> ?_
  ·cases v<;>simp only [AV.onBool]<;>try exact IsLoc.none
   rename_i t
   cases t
   ·exact ihb E sl
   ·exact iha E sl
  ·simp only [codeT,execI]
 | block id a iha =>
  refine fun E sl=>(IsLoc.map (f:=fun x:Ex×(Nat→AV)=>(x.1.blockK id fun e=>e,x.2)) (iha E sl)).of_eq fun β s k=> ?_
  simp only [codeT,execI]
  refine congrArg _ ?_
  funext e fr f
  cases e with
  | normal=>rfl
  | ret=>rfl
  | exit j =>
   simp only [Ex.blockK]
   cases Nat.beq j id<;>rfl
 | loop a iha=>exact fun E sl=>(loc_unroll (body:=fun β kb fr k=>execI rts n a { E with kb:=kb } β fr k) (fun kb sl=>iha { E with kb:=kb } sl) 9 E.kb sl).of_eq fun β s k=>by simp only [codeT,execI]
 | exit id=>exact fun E sl=>IsLoc.ret (Ex.exit id,sl)
 | ret=>exact fun E sl=>IsLoc.ret (Ex.ret,sl)
 | _=>exact fun E sl=>IsLoc.none.of_eq fun _ _ _=>by simp only [codeT,execI]
theorem loc_rawRes (E:Env) (sl:Nat→AV) (r:ResultVar):IsLoc (fun β s k=>rawRes E sl r s k):=by
 cases r with
 | tmp t=>exact IsLoc.ret _
 | cell a t=>exact IsLoc.obind _ fun ti=>loc_doLoad E sl ti _
theorem loc_rawAll (E:Env) (sl:Nat→AV):∀ (rs:List ResultVar),IsLoc (fun β s k=>rawAll E sl rs s k)
 | []=>(IsLoc.ret []).of_eq fun _ _ _=>rfl
 | r::rs=>(IsLoc.bind (f:=fun v l=>v::l) (loc_rawRes E sl r) fun _=>loc_rawAll E sl rs).of_eq fun _ _ _=>by simp only [rawAll]
theorem loc_runI (E:Env) (fn:Func) (kb:Nat) (args:List AV):IsLoc (fun β s k=>runI E rts fn β kb args s k):=by
 unfold runI
 cases fn.body with
 | none=>exact IsLoc.none
 | some c =>
  refine IsLoc.chk _ ?_
  refine (IsLoc.bind (f:=fun _ v=>v) (loc_execI (rts:=rts) (n:=fn.ntmps) c { E with kb:=kb } (bindArgs args)) (U:=fun x β s k=>x.1.endK (rawAll E x.2 fn.results.toList s fun vs st2 f2=>chk (allW vs) (k (oneAV vs) st2 f2)) none) fun x=> ?_).of_eq fun β s k=> ?_
  ·obtain ⟨e,sl⟩:=x
   have key:IsLoc (A:=AV) (fun β s k=>rawAll E sl fn.results.toList s fun vs st2 f2=>chk (allW vs) (k (oneAV vs) st2 f2)):=by
    refine ⟨fun {α st k r} hk=> ?_⟩
    obtain ⟨vs,st1,f1,hk1,l1⟩:=(loc_rawAll E sl fn.results.toList).go hk
    obtain ⟨hc,hk2⟩:=chk_inv hk1
    refine ⟨_,_,_,hk2,⟨l1.eff,fun s hs β k2=> ?_⟩⟩
    rw [l1.run s hs,hc]
    rfl
   cases e with
   | normal=>exact key
   | ret=>exact key
   | exit j=>exact IsLoc.none
  ·refine congrArg _ ?_
   funext e fr f
   cases e<;>rfl
end
section
variable {P:Program} {n B:Nat} {M:Nat→Prop} {w0:World} {p0:Prot} {S:World→Prot→(Nat→Value)→(Nat→Prop)→Prop} {rts:Nat→Option (List Nat)}
theorem sim_execI (hS:Stable S) (c:Code):∀ {E:Env} (hty:∀ t i,E.ty t=some i→mkTI P t=some i) (hC:∀ kb,CallOK P { E with kb:=kb } rts) (hD:∀ kb,DrawOK P { E with kb:=kb } rts) {α:Type} {kb:Nat} {fr:Fr} {a:Act} {w:World} (_:OkS E n B M w0 p0 S a w fr) {k:Ex→Fr→FP→Option α} {r:α},execI rts n c { E with kb:=kb } α fr k=some r →
  ∀ (Q:Exit→Act→World→Prop),(∀ e fr' f,k e fr' f=some r→∀ a' w',OkS E n B M w0 p0 S a' w' fr'→Q e.toExit a' w')→c.wp P Q a w:=by
 induction c with
 | skip=>intro E hty hC hD α kb fr a w h k r hk Q hQ;exact wp_skip (hQ .normal fr _ hk a w h)
 | label l=>intro E hty hC hD α kb fr a w h k r hk Q hQ;exact wp_label (hQ .normal fr _ hk a w h)
 | region id ops draw =>
  intro E hty hC hD α kb fr a w h k r hk Q hQ
  simp only [execI] at hk
  have h':OkS { E with kb:=kb } n B M w0 p0 S a w fr:=h
  cases draw with
  | false =>
   simp only [Bool.not_false,Bool.true_or,chk,cond_true] at hk
   exact wp_region (sim_execOps (E:={ E with kb:=kb }) hS hty (hC kb) h' (range_map ops) hk Q fun fr' fps hk2 a' w' hi=>hQ .normal fr' _ hk2 a' w' hi)
  | true =>
   simp only [Bool.not_true,Bool.false_or,chk] at hk
   obtain ⟨T,fr1,t1,t2,t3,t4⟩:=exec_runs 0 hk
   obtain ⟨hind,hk1⟩:=bif_inv t4
   have hk2:(execOps { E with kb:=kb } rts n ops.toList ops.toList fr fun fr' fps=>bif indep ops.toList fps then (fun fr'=>k .normal fr' (fpSum (T.map (·.2.2.fp)))) fr' else none)=some r:=by
    rw [exec_same t2 t3]
    rw [hind];exact hk1
   exact hD kb hS h' hk2 Q fun fr' hk3 a' w' hi=>hQ .normal fr' _ hk3 a' w' hi
 | seq x y ihx ihy =>
  intro E hty hC hD α kb fr a w h k r hk Q hQ
  simp only [execI] at hk
  refine wp_seq (ihx hty hC hD h hk _ fun e fr' f hk2 a' w' hi=> ?_)
  cases e with
  | normal=>exact ihy hty hC hD hi hk2 Q fun e fr2 f2 hk3=>hQ e fr2 _ hk3
  | ret=>exact hQ .ret fr' _ hk2 a' w' hi
  | exit j=>exact hQ (.exit j) fr' _ hk2 a' w' hi
 | cond c x y ihx ihy =>
  intro E hty hC hD α kb fr a w h k r hk Q hQ
  simp only [execI] at hk
  obtain ⟨v,hv,hk1⟩:=bind_inv hk
  obtain ⟨t,rfl,hk2⟩:=onBool_inv hk1
  obtain ⟨p,g,hi,hG,hH⟩:=h
  have hc:=(evalO_rep (E:={ E with kb:=kb }) hG hi.slots hv).bool
  have h':OkS E n B M w0 p0 S a w fr:=⟨p,g,hi,hG,hH⟩
  cases t with
  | true=>exact wp_cond_true hc (ihx hty hC hD h' hk2 Q hQ)
  | false=>exact wp_cond_false hc (ihy hty hC hD h' hk2 Q hQ)
 | block id x ih =>
  intro E hty hC hD α kb fr a w h k r hk Q hQ
  simp only [execI] at hk
  refine wp_block (ih hty hC hD h hk _ fun e fr' f hk2 a' w' hi=> ?_)
  cases e with
  | normal=>exact hQ .normal fr' _ hk2 a' w' hi
  | ret=>exact hQ .ret fr' _ hk2 a' w' hi
  | exit j =>
   simp only [Ex.blockK] at hk2
   simp only [Ex.toExit,Exit.inBlock]
   by_cases hj:j=id
   ·subst hj
    have:Nat.beq j j=true:=by simp
    rw [this] at hk2
    rw [if_pos rfl]
    exact hQ .normal fr' _ hk2 a' w' hi
   ·have:Nat.beq j id=false:=by
     cases hb:Nat.beq j id
     ·rfl
     ·exact absurd (Nat.eq_of_beq_eq_true hb) hj
    rw [this] at hk2
    rw [if_neg hj]
    exact hQ (.exit j) fr' _ hk2 a' w' hi
 | loop x ih =>
  intro E hty hC hD α kb fr a w h k r hk Q hQ
  simp only [execI] at hk
  refine wp_loop_ghost (fun m a w=>∃ (kb:Nat) (fr:Fr) (k2:Ex→Fr→FP→Option α),OkS E n B M w0 p0 S a w fr∧unroll (fun kb fr k=>execI rts n x { E with kb:=kb } α fr k) m kb fr k2=some r∧∀ e fr' f,k2 e fr' f=some r→∃ f',k e fr' f'=some r) 9 ⟨kb,fr,k,h,hk,fun e fr' f hk=>⟨f,hk⟩⟩ ?_
  rintro m a' w' ⟨kb',fr',k2,hok,hun,himp⟩
  cases m with
  | zero=>cases hun
  | succ m =>
   simp only [unroll] at hun
   refine ih hty hC hD hok hun _ fun e fr2 f hk3 a2 w2 hi=> ?_
   cases e with
   | normal=>exact ⟨m,Nat.lt_succ_self _,kb'+10000,fr2,_,hi,hk3,fun e fr' f' hk4=>himp e fr' _ hk4⟩
   | ret =>
    obtain ⟨f',hk4⟩:=himp .ret fr2 _ hk3
    exact hQ .ret fr2 _ hk4 a2 w2 hi
   | exit j =>
    obtain ⟨f',hk4⟩:=himp (.exit j) fr2 _ hk3
    exact hQ (.exit j) fr2 _ hk4 a2 w2 hi
 | exit id=>intro E hty hC hD α kb fr a w h k r hk Q hQ;exact wp_exit (hQ (.exit id) fr _ hk a w h)
 | ret=>intro E hty hC hD α kb fr a w h k r hk Q hQ;exact wp_ret (hQ .ret fr _ hk a w h)
 | _=>intro E hty hC hD α kb fr a w h k r hk Q hQ;simp [execI] at hk
theorem RepV.isW {w:World} {p:Prot} {g:Nat→Value} {u:Nat→Prop} {v:Value} {a:AV} (h:RepV w p g u v a) (hc:a.isW=true):RepW w p g u v a:=by
 rcases h with rfl | h | ⟨_,_,rfl,rfl,_⟩
 ·cases hc
 ·exact h
 ·cases hc
theorem sim_rawAll {α:Type} {E:Env} {w:World} {p:Prot} {g:Nat→Value} (hty:∀ t i,E.ty t=some i→mkTI P t=some i) {sl:Nat→AV} {tmps:Array Value} {st:Nat→Blk} (h:SInv B M w0 p0 w p g st) (hsl:∀ t,RepV w p g (used st) (tmps.getD t undef) (sl t)):∀ {rs:List ResultVar} {k:List AV→(Nat→Blk)→FP→Option α} {r:α},
  rawAll E sl rs st k=some r→∃ xs vs fp,(rs.mapM (resultOf tmps)).run P w = .ok xs w∧k vs st fp=some r∧Cells (RepV w p g (used st)) xs vs
 | [],k,r,hk=>⟨[],[],_,by simp,hk,.nil⟩
 | rv::rs,k,r,hk=>by
  simp only [rawAll] at hk
  have one:∃ x v fp,(resultOf tmps rv).run P w = .ok x w∧RepV w p g (used st) x v∧(rawAll E sl rs st fun l st2 f2=>k (v::l) st2 (FP.add fp f2))=some r:=by
   cases rv with
   | tmp t=>exact ⟨_,_,_,rfl,hsl t,hk⟩
   | cell c t =>
    simp only [rawRes] at hk
    obtain ⟨ti,hti,hk2⟩:=bind_inv hk
    obtain ⟨v,fp,hk3,hg⟩:=sim_doLoadR (fr:=⟨sl,st⟩) hty (hty _ _ hti) h (hsl c) hk2
    obtain ⟨x,e1,e4⟩:=hg
    have hptr:∃ b,tmps.getD c undef = .pointer (some b):=by
     have hv:=hsl c
     unfold doLoad at hk2
     split at hk2
     ·rename_i hs;rw [hs] at hv;obtain ⟨_,β,_,e⟩:=hv.ptr;exact ⟨_,e⟩
     ·rename_i hs;rw [hs] at hv
      have hi:=hv.rptr
      generalize tmps.getD c undef=y at hi
      cases hi;exact ⟨_,rfl⟩
     ·rename_i hs;rw [hs] at hv;obtain ⟨_,β,j,b',_,e,_⟩:=hv.pptr;exact ⟨_,e⟩
     ·rename_i hs;rw [hs] at hv;obtain ⟨_,β,_,e⟩:=hv.eptr;exact ⟨_,e⟩
     ·cases hk2
    obtain ⟨b,hb⟩:=hptr
    have hrun:(resultOf tmps (.cell c t)).run P w = .ok x w:=by
     rw [hb] at e1
     simp only [resultOf,hb]
     simpa [Instr.loadAt,Instr.sureAddr,asAddr] using e1
    exact ⟨x,v,fp,hrun,e4,hk3⟩
  obtain ⟨x,v,fp,h1,h2,h3⟩:=one
  obtain ⟨xs,vs,fp2,g1,g2,g3⟩:=sim_rawAll hty h hsl h3
  exact ⟨x::xs,v::vs,_,by simp [List.mapM_cons,h1,g1],g2,.cons h2 g3⟩
theorem sim_runI {E : Env} (hty : ∀ t i, E.ty t = some i → mkTI P t = some i) (hC : ∀ kb, CallOK P { E with kb := kb } rts) (hD : ∀ kb, DrawOK P { E with kb := kb } rts) {f : FuncId} {fn : Func} (hf : P.funcs[f]? = some fn) (hname : fn.name ≠ "runtime.NumGoroutine")
  {w:World} {p:Prot} {g:Nat→Value} {st:Nat→Blk} (h:SInv B M w0 p0 w p g st) (hG:GlobOK E w p) {kb:Nat} {args:List AV} {xs:List Value} (hx:Cells (RepV w p g (used st)) xs args) {v:AV} {st':Nat→Blk} {fp:FP} (hk:runI E rts fn _ kb args st trip=some (v,st',fp)) :
  CallsX P f xs.toArray w fun x w'=>∃ p' g',SInv B M w0 p0 w' p' g' st'∧Mono w p g (used st) w' p' g' (used st')∧RepV w' p' g' (used st') x v:=by
 unfold runI at hk
 split at hk
 ·cases hk
 ·rename_i c hbody
  obtain ⟨hle,hk1⟩:=chk_inv hk
  have hle':args.length≤fn.ntmps:=Nat.le_of_ble_eq_true hle
  refine .inl ⟨by simp [callFunc,hf,hname,hbody],?_⟩
  have hS:Stable (fun w' p' g' u'=>Mono w p g (used st) w' p' g' u'):=fun hm h=>h.trans hm
  have hinv:Inv fn.ntmps B M w0 p0 w p g { tmps:=xs.toArray++Array.replicate (fn.ntmps-xs.toArray.size) undef,defers:=[] } ⟨bindArgs args,st⟩:=by
   refine ⟨h,rfl,by simp [hx.len];omega,fun t=> ?_⟩
   simp only [bindArgs]
   cases hat:args[t]? with
   | none=>exact .inl rfl
   | some y =>
    obtain ⟨x,hxt,hr⟩:=hx.get hat
    have hlt:t<xs.toArray.size:=by simpa using (List.getElem?_eq_some_iff.1 hxt).1
    have hget:(xs.toArray++Array.replicate (fn.ntmps-xs.toArray.size) undef).getD t undef=x:=by
     rw [Array.getD_eq_getD_getElem?,Array.getElem?_append_left hlt]
     have:xs.toArray[t]? = some x:=by simpa using hxt
     rw [this];rfl
    rw [hget]
    exact hr
  refine calls_of_wp hf hbody (sim_execI (S:=fun w' p' g' u'=>Mono w p g (used st) w' p' g' u') hS c hty hC hD ⟨p,g,hinv,hG,Mono.refl⟩ hk1 _ fun e fr f hk2 a' w' hok=> ?_)
  obtain ⟨p1,g1,hi,hG1,hm⟩:=hok
  have key:(rawAll E fr.slots fn.results.toList fr.st fun vs st2 f2=>chk (allW vs) (trip (oneAV vs) st2 (f.add f2)))=some (v,st',fp) →
    a'.defers=[]∧∃ y,(results fn a'.tmps).run P w' = .ok y w'∧∃ v',Ending.returned y = .returned v'∧∃ p' g',SInv B M w0 p0 w' p' g' st'∧Mono w p g (used st) w' p' g' (used st')∧RepV w' p' g' (used st') v' v:=by
   intro hk3
   obtain ⟨ys,vs,fp2,r1,r2,r3⟩:=sim_rawAll hty hi.s hi.slots hk3
   obtain ⟨hw,r4⟩:=chk_inv r2
   cases r4
   refine ⟨hi.defers,_,run_results r1,_,rfl,p1,g1,hi.s,hm,?_⟩
   have hw':Cells (RepW w' p1 g1 (used fr.st)) ys vs:=⟨r3.len,fun i x a hx ha=>(r3.each i x a hx ha).isW (allW_mem hw a (List.mem_of_getElem? ha))⟩
   unfold oneOrMore oneAV
   cases vs with
   | nil =>
    rw [hw'.nil_iff]
    exact .inr (.inr ⟨#[],[],rfl,rfl,.nil⟩)
   | cons a vs =>
    obtain ⟨y,ys',rfl,h1,h2⟩:=hw'.uncons
    cases vs with
    | nil =>
     rw [h2.nil_iff]
     exact .inr (.inl h1)
    | cons b vs =>
     obtain ⟨y2,ys2,rfl,_,_⟩:=h2.uncons
     exact .inr (.inr ⟨_,_,rfl,rfl,hw'⟩)
  cases e with
  | normal=>exact key hk2
  | ret=>exact key hk2
  | exit j=>cases hk2
end
end Go.Abs
