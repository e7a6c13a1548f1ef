/- Functions that run in their caller's store: code in which loops are run round by round, and which tells what it looked at. -/
import Derived.Test.YtiplnpablmohiaaGreatAbsDraw2
import Derived.Test.YtiplnpablmohiaaGreatAbsFn2
namespace Go.Abs
set_option linter.unusedVariables false
def fpSum:List FP→FP
 | [] => .none
 | f::r=>f.add (fpSum r)
def unroll {α:Type} (body:Nat→Fr→(Ex→Fr→FP→Option α)→Option α):Nat→Nat→Fr→(Ex→Fr→FP→Option α)→Option α
 | 0,_,_,_=>none
 | m+1,kb,fr,k=>body kb fr fun e fr' f1=>e.seqK (unroll body m (kb+10000) fr' fun e2 fr2 f2=>k e2 fr2 (f1.add f2)) fun e=>k e fr' (f1.add .none)
noncomputable def execI (rts:Nat→Option (List Nat)) (n:Nat):Code→Env→(α:Type)→Fr→(Ex→Fr→FP→Option α)→Option α
 | .skip,_,_,fr,k=>k .normal fr .none
 | .label _,_,_,fr,k=>k .normal fr .none
 | .region id ops draw,E,_,fr,k=>execOps E rts n ops.toList ops.toList fr fun fr' fps=>chk (!draw||indep ops.toList fps) (k .normal fr' (fpSum fps))
 | .seq a b,E,α,fr,k=>execI rts n a E α fr fun e fr' f1=>e.seqK (execI rts n b E α fr' fun e2 fr2 f2=>k e2 fr2 (f1.add f2)) fun e=>k e fr' (f1.add .none)
 | .cond c a b,E,α,fr,k=>(evalO E fr c).bind fun v=>v.onBool fun t=>sel t (execI rts n a E α fr k) (execI rts n b E α fr k)
 | .block id a,E,α,fr,k=>execI rts n a E α fr fun e fr' f=>e.blockK id fun e=>k e fr' f
 | .loop a,E,α,fr,k=>unroll (fun kb fr k=>execI rts n a { E with kb:=kb } α fr k) 9 E.kb fr k
 | .exit id,_,_,fr,k=>k (.exit id) fr .none
 | .ret,_,_,fr,k=>k .ret fr .none
 | _,_,_,_,_=>none
def rawRes {α:Type} (E:Env) (sl:Nat→AV) (r:ResultVar) (st:Nat→Blk) (k:Ret α):Option α :=
 match r with
 | .tmp t=>k (sl t) st .none
 | .cell a t=>(E.ty t).bind fun ti=>doLoad E ⟨sl,st⟩ ti (sl a) k
def rawAll {α:Type} (E:Env) (sl:Nat→AV):List ResultVar→(Nat→Blk)→(List AV→(Nat→Blk)→FP→Option α)→Option α
 | [],st,k=>k [] st .none
 | r::rs,st,k=>rawRes E sl r st fun v st1 f1=>rawAll E sl rs st1 fun l st2 f2=>k (v::l) st2 (f1.add f2)
def AV.isW:AV→Bool
 | .agg _=>true
 | v=>v.isCell
def allW:List AV→Bool
 | []=>true
 | v::r=>v.isW&&allW r
theorem allW_mem:∀ {l:List AV},allW l=true→∀ a∈l,a.isW=true
 | v::r,h,a,ha=>by
  simp only [allW,Bool.and_eq_true] at h
  rcases List.mem_cons.1 ha with rfl | ha
  ·exact h.1
  ·exact allW_mem h.2 a ha
def oneAV:List AV→AV
 | [v]=>v
 | vs => .tup vs
def bindArgs (args:List AV):Nat→AV:=fun i=>(args[i]?).getD .undef
noncomputable def runI (E:Env) (rts:Nat→Option (List Nat)) (fn:Func) (α:Type) (kb:Nat) (args:List AV) (st:Nat→Blk) (k:Ret α):Option α :=
 match fn.body with
 | none=>none
 | some c=>chk (Nat.ble args.length fn.ntmps) (execI rts fn.ntmps c { E with kb:=kb } α ⟨bindArgs args,st⟩ fun e fr f=>e.endK (rawAll E fr.slots fn.results.toList fr.st fun vs st2 f2=>chk (allW vs) (k (oneAV vs) st2 (f.add f2))) none)
section
variable {rts:Nat→Option (List Nat)} {n:Nat}
theorem exec_same {E:Env} {all:List Oper} {α:Type}:∀ {T:List Done} {os:List Oper} {fr fr':Fr},T.map (·.2.1)=os→Runs E rts n all T fr fr'→∀ {k:Fr→List FP→Option α},execOps E rts n all os fr k=k fr' (T.map (·.2.2.fp))
 | [],os,fr,fr',h1,h2,k=>by
  subst h1
  cases h2
  rfl
 | t::T,os,fr,fr',h1,h2,k=>by
  subst h1
  obtain ⟨hs,h3⟩:=h2
  simp only [List.map_cons]
  rw [execOps_cons,hs fr Agree.refl,exec_same rfl h3]
theorem merge_merge {wr:List Nat} {a b c:Nat→Blk}:merge wr (merge wr a b) c=merge wr a c:=by
 funext x
 simp only [merge]
 split<;>rfl
theorem loc_stepOp (E:Env) (all:List Oper) (o:Oper) (sl:Nat→AV):IsLoc (A:=Nat→AV) (fun β s k=>stepOp E rts n all ⟨sl,s⟩ o fun fr fp=>k fr.slots fr.st fp):=by
 refine ⟨fun {α st k r} hk=> ?_⟩
 obtain ⟨e,h1,hs⟩:=step_loc hk
 refine ⟨_,_,_,h1,⟨fun x hx=>by simp [Eff.on,merge,hx],fun st2 h2 β k2=> ?_⟩⟩
 rw [hs ⟨sl,st2⟩ ⟨fun _ _=>rfl,h2⟩]
 simp only [Eff.on]
 rw [merge_merge]
theorem loc_execOps (E:Env) (all:List Oper):∀ (os:List Oper) (sl:Nat→AV),IsLoc (A:=(Nat→AV)×List FP) (fun β s k=>execOps E rts n all os ⟨sl,s⟩ fun fr fps=>k (fr.slots,fps) fr.st (fpSum fps))
 | [],sl=>(IsLoc.ret (sl,[])).of_eq fun β s k=>by simp only [execOps,fpSum]
 | o::os,sl=>by
  refine ⟨fun {α st k r} hk=> ?_⟩
  rw [execOps_cons] at hk
  obtain ⟨sl1,st1,f1,hk1,l1⟩:=(loc_stepOp E all o sl).go (k:=fun sl1 st1 f1=>execOps E rts n all os ⟨sl1,st1⟩ fun fr2 fps=>k (fr2.slots,f1::fps) fr2.st (fpSum (f1::fps))) hk
  obtain ⟨⟨sl2,fps⟩,st2,f2,hk2,l2⟩:=(loc_execOps E all os sl1).go (k:=fun x st2 f2=>k (x.1,f1::x.2) st2 (f1.add f2)) hk1
  refine ⟨_,_,_,hk2,?_⟩
  have:=Loc.bind (f:=fun (a:Nat→AV) (c:(Nat→AV)×List FP)=>(c.1,f1::c.2)) l1 (U:=fun a β s k=>execOps E rts n all os ⟨a,s⟩ fun fr fps=>k (fr.slots,fps) fr.st (fpSum fps)) l2
  refine ⟨this.eff,fun s hs β k2=> ?_⟩
  have h2:=this.run s hs β k2
  rw [← h2,execOps_cons]
  have h3:=l1.run s (fun x hx=>hs x (List.mem_append.2 (.inl hx))) β
  have e1:=h3 fun a s1 f=>execOps E rts n all os ⟨a,s1⟩ fun fr2 fps=>k2 (fr2.slots,f::fps) fr2.st (fpSum (f::fps))
  have e2:=h3 fun a s1 f=>execOps E rts n all os ⟨a,s1⟩ fun fr fps=>k2 (fr.slots,f1::fps) fr.st (f.add (fpSum fps))
  simp only at e1 e2 ⊢
  rw [e1,e2]
  rfl
noncomputable abbrev codeT (rts:Nat→Option (List Nat)) (n:Nat) (c:Code) (E:Env) (sl:Nat→AV):StT (Ex×(Nat→AV)):=fun β s k=>execI rts n c E β ⟨sl,s⟩ fun e fr f=>k (e,fr.slots) fr.st f
theorem loc_next {T:(Nat→AV)→StT (Ex×(Nat→AV))} (hT:∀ sl,IsLoc (T sl)) (x:Ex×(Nat→AV)):IsLoc (A:=Ex×(Nat→AV)) (fun β s k=>x.1.seqK (T x.2 β s k) fun e=>k (e,x.2) s .none):=by
 obtain ⟨e,sl⟩:=x
 cases e with
 | normal=>exact hT sl
 | ret=>exact IsLoc.ret _
 | exit j=>exact IsLoc.ret _
theorem loc_unroll {body:(β:Type)→Nat→Fr→(Ex→Fr→FP→Option β)→Option β} (hb:∀ kb sl,IsLoc (A:=Ex×(Nat→AV)) (fun β s k=>body β kb ⟨sl,s⟩ fun e fr f=>k (e,fr.slots) fr.st f)):∀ (m kb:Nat) (sl:Nat→AV),IsLoc (A:=Ex×(Nat→AV)) (fun β s k=>unroll (body β) m kb ⟨sl,s⟩ fun e fr f=>k (e,fr.slots) fr.st f)
 | 0,kb,sl=>IsLoc.none.of_eq fun _ _ _=>rfl
 | m+1,kb,sl=>by
  refine (IsLoc.bind (f:=fun _ c=>c) (hb kb sl) (loc_next (fun sl=>loc_unroll hb m (kb+10000) sl))).of_eq fun β s k=> ?_
  simp only [unroll]
theorem loc_execI (c:Code):∀ (E:Env) (sl:Nat→AV),IsLoc (codeT rts n c E sl):=by
 induction c with
 | skip=>exact fun E sl=>IsLoc.ret (Ex.normal,sl)
 | label _=>exact fun E sl=>IsLoc.ret (Ex.normal,sl)
 | region id ops draw =>
  refine fun E sl=>⟨fun {α st k r} hk=> ?_⟩
  simp only [codeT,execI] at hk
  obtain ⟨⟨sl1,fps⟩,st1,f1,hk1,l1⟩:=(loc_execOps E ops.toList ops.toList sl).go (k:=fun x st1 f1=>chk (!draw||indep ops.toList x.2) (k (.normal,x.1) st1 f1)) hk
  obtain ⟨hc,hk2⟩:=chk_inv hk1
  refine ⟨_,_,_,hk2,⟨l1.eff,fun s hs β k2=> ?_⟩⟩
  have:=l1.run s hs β fun x st1 f1=>chk (!draw||indep ops.toList x.2) (k2 (.normal,x.1) st1 f1)
  simp only [codeT,execI]
  simp only at this hc
  rw [this,hc]
  rfl
 | seq a b iha ihb =>
  refine fun E sl=>(IsLoc.bind (f:=fun _ c=>c) (iha E sl) (loc_next fun sl=>ihb E sl)).of_eq fun β s k=> ?_
  simp only [codeT,execI]
 | cond c a b iha ihb =>
  refine fun E sl=>(IsLoc.ev E sl c (T:=fun v=>fun β s k=>v.onBool fun t=>sel t (codeT rts n a E sl β s k) (codeT rts n b E sl β s k)) fun v=> ?_).of_eq fun β s k=> ?_
  ·cases v<;>simp only [AV.onBool]<;>try exact IsLoc.none
   rename_i t
   cases t
   ·exact ihb E sl
   ·exact iha E sl
  ·simp only [codeT,execI]
 | block id a iha =>
  refine fun E sl=>(IsLoc.map (f:=fun x:Ex×(Nat→AV)=>(x.1.blockK id fun e=>e,x.2)) (iha E sl)).of_eq fun β s k=> ?_
  simp only [codeT,execI]
  refine congrArg _ ?_
  funext e fr f
  cases e with
  | normal=>rfl
  | ret=>rfl
  | exit j =>
   simp only [Ex.blockK]
   cases Nat.beq j id<;>rfl
 | loop a iha=>exact fun E sl=>(loc_unroll (body:=fun β kb fr k=>execI rts n a { E with kb:=kb } β fr k) (fun kb sl=>iha { E with kb:=kb } sl) 9 E.kb sl).of_eq fun β s k=>by simp only [codeT,execI]
 | exit id=>exact fun E sl=>IsLoc.ret (Ex.exit id,sl)
 | ret=>exact fun E sl=>IsLoc.ret (Ex.ret,sl)
 | _=>exact fun E sl=>IsLoc.none.of_eq fun _ _ _=>by simp only [codeT,execI]
theorem loc_rawRes (E:Env) (sl:Nat→AV) (r:ResultVar):IsLoc (fun β s k=>rawRes E sl r s k):=by
 cases r with
 | tmp t=>exact IsLoc.ret _
 | cell a t=>exact IsLoc.obind _ fun ti=>loc_doLoad E sl ti _
theorem loc_rawAll (E:Env) (sl:Nat→AV):∀ (rs:List ResultVar),IsLoc (fun β s k=>rawAll E sl rs s k)
 | []=>(IsLoc.ret []).of_eq fun _ _ _=>rfl
 | r::rs=>(IsLoc.bind (f:=fun v l=>v::l) (loc_rawRes E sl r) fun _=>loc_rawAll E sl rs).of_eq fun _ _ _=>by simp only [rawAll]
theorem loc_runI (E:Env) (fn:Func) (kb:Nat) (args:List AV):IsLoc (fun β s k=>runI E rts fn β kb args s k):=by
 unfold runI
 cases fn.body with
 | none=>exact IsLoc.none
 | some c =>
  refine IsLoc.chk _ ?_
  refine (IsLoc.bind (f:=fun _ v=>v) (loc_execI (rts:=rts) (n:=fn.ntmps) c { E with kb:=kb } (bindArgs args)) (U:=fun x β s k=>x.1.endK (rawAll E x.2 fn.results.toList s fun vs st2 f2=>chk (allW vs) (k (oneAV vs) st2 f2)) none) fun x=> ?_).of_eq fun β s k=> ?_
  ·obtain ⟨e,sl⟩:=x
   have key:IsLoc (A:=AV) (fun β s k=>rawAll E sl fn.results.toList s fun vs st2 f2=>chk (allW vs) (k (oneAV vs) st2 f2)):=by
    refine ⟨fun {α st k r} hk=> ?_⟩
    obtain ⟨vs,st1,f1,hk1,l1⟩:=(loc_rawAll E sl fn.results.toList).go hk
    obtain ⟨hc,hk2⟩:=chk_inv hk1
    refine ⟨_,_,_,hk2,⟨l1.eff,fun s hs β k2=> ?_⟩⟩
    rw [l1.run s hs,hc]
    rfl
   cases e with
   | normal=>exact key
   | ret=>exact key
   | exit j=>exact IsLoc.none
  ·refine congrArg _ ?_
   funext e fr f
   cases e<;>rfl
end
section
variable {P:Program} {n B:Nat} {M:Nat→Prop} {w0:World} {p0:Prot} {S:World→Prot→(Nat→Value)→(Nat→Prop)→Prop} {rts:Nat→Option (List Nat)}
theorem sim_execI (hS:Stable S) (c:Code):∀ {E:Env} (hty:∀ t i,E.ty t=some i→mkTI P t=some i) (hC:∀ kb,CallOK P { E with kb:=kb } rts) (hD:∀ kb,DrawOK P { E with kb:=kb } rts) {α:Type} {kb:Nat} {fr:Fr} {a:Act} {w:World} (_:OkS E n B M w0 p0 S a w fr) {k:Ex→Fr→FP→Option α} {r:α},execI rts n c { E with kb:=kb } α fr k=some r →
  ∀ (Q:Exit→Act→World→Prop),(∀ e fr' f,k e fr' f=some r→∀ a' w',OkS E n B M w0 p0 S a' w' fr'→Q e.toExit a' w')→c.wp P Q a w:=by
 induction c with
 | skip=>intro E hty hC hD α kb fr a w h k r hk Q hQ;exact wp_skip (hQ .normal fr _ hk a w h)
 | label l=>intro E hty hC hD α kb fr a w h k r hk Q hQ;exact wp_label (hQ .normal fr _ hk a w h)
 | region id ops draw =>
  intro E hty hC hD α kb fr a w h k r hk Q hQ
  simp only [execI] at hk
  have h':OkS { E with kb:=kb } n B M w0 p0 S a w fr:=h
  cases draw with
  | false =>
   simp only [Bool.not_false,Bool.true_or,chk,cond_true] at hk
   exact wp_region (sim_execOps (E:={ E with kb:=kb }) hS hty (hC kb) h' (range_map ops) hk Q fun fr' fps hk2 a' w' hi=>hQ .normal fr' _ hk2 a' w' hi)
  | true =>
   simp only [Bool.not_true,Bool.false_or,chk] at hk
   obtain ⟨T,fr1,t1,t2,t3,t4⟩:=exec_runs 0 hk
   obtain ⟨hind,hk1⟩:=bif_inv t4
   have hk2:(execOps { E with kb:=kb } rts n ops.toList ops.toList fr fun fr' fps=>bif indep ops.toList fps then (fun fr'=>k .normal fr' (fpSum (T.map (·.2.2.fp)))) fr' else none)=some r:=by
    rw [exec_same t2 t3]
    rw [hind];exact hk1
   exact hD kb hS h' hk2 Q fun fr' hk3 a' w' hi=>hQ .normal fr' _ hk3 a' w' hi
 | seq x y ihx ihy =>
  intro E hty hC hD α kb fr a w h k r hk Q hQ
  simp only [execI] at hk
  refine wp_seq (ihx hty hC hD h hk _ fun e fr' f hk2 a' w' hi=> ?_)
  cases e with
  | normal=>exact ihy hty hC hD hi hk2 Q fun e fr2 f2 hk3=>hQ e fr2 _ hk3
  | ret=>exact hQ .ret fr' _ hk2 a' w' hi
  | exit j=>exact hQ (.exit j) fr' _ hk2 a' w' hi
 | cond c x y ihx ihy =>
  intro E hty hC hD α kb fr a w h k r hk Q hQ
  simp only [execI] at hk
  obtain ⟨v,hv,hk1⟩:=bind_inv hk
  obtain ⟨t,rfl,hk2⟩:=onBool_inv hk1
  obtain ⟨p,g,hi,hG,hH⟩:=h
  have hc:=(evalO_rep (E:={ E with kb:=kb }) hG hi.slots hv).bool
  have h':OkS E n B M w0 p0 S a w fr:=⟨p,g,hi,hG,hH⟩
  cases t with
  | true=>exact wp_cond_true hc (ihx hty hC hD h' hk2 Q hQ)
  | false=>exact wp_cond_false hc (ihy hty hC hD h' hk2 Q hQ)
 | block id x ih =>
  intro E hty hC hD α kb fr a w h k r hk Q hQ
  simp only [execI] at hk
  refine wp_block (ih hty hC hD h hk _ fun e fr' f hk2 a' w' hi=> ?_)
  cases e with
  | normal=>exact hQ .normal fr' _ hk2 a' w' hi
  | ret=>exact hQ .ret fr' _ hk2 a' w' hi
  | exit j =>
   simp only [Ex.blockK] at hk2
   simp only [Ex.toExit,Exit.inBlock]
   by_cases hj:j=id
   ·subst hj
    have:Nat.beq j j=true:=by simp
    rw [this] at hk2
    rw [if_pos rfl]
    exact hQ .normal fr' _ hk2 a' w' hi
   ·have:Nat.beq j id=false:=by
     cases hb:Nat.beq j id
     ·rfl
     ·exact absurd (Nat.eq_of_beq_eq_true hb) hj
    rw [this] at hk2
    rw [if_neg hj]
    exact hQ (.exit j) fr' _ hk2 a' w' hi
 | loop x ih =>
  intro E hty hC hD α kb fr a w h k r hk Q hQ
  simp only [execI] at hk
  refine wp_loop_ghost (fun m a w=>∃ (kb:Nat) (fr:Fr) (k2:Ex→Fr→FP→Option α),OkS E n B M w0 p0 S a w fr∧unroll (fun kb fr k=>execI rts n x { E with kb:=kb } α fr k) m kb fr k2=some r∧∀ e fr' f,k2 e fr' f=some r→∃ f',k e fr' f'=some r) 9 ⟨kb,fr,k,h,hk,fun e fr' f hk=>⟨f,hk⟩⟩ ?_
  rintro m a' w' ⟨kb',fr',k2,hok,hun,himp⟩
  cases m with
  | zero=>cases hun
  | succ m =>
   simp only [unroll] at hun
   refine ih hty hC hD hok hun _ fun e fr2 f hk3 a2 w2 hi=> ?_
   cases e with
   | normal=>exact ⟨m,Nat.lt_succ_self _,kb'+10000,fr2,_,hi,hk3,fun e fr' f' hk4=>himp e fr' _ hk4⟩
   | ret =>
    obtain ⟨f',hk4⟩:=himp .ret fr2 _ hk3
    exact hQ .ret fr2 _ hk4 a2 w2 hi
   | exit j =>
    obtain ⟨f',hk4⟩:=himp (.exit j) fr2 _ hk3
    exact hQ (.exit j) fr2 _ hk4 a2 w2 hi
 | exit id=>intro E hty hC hD α kb fr a w h k r hk Q hQ;exact wp_exit (hQ (.exit id) fr _ hk a w h)
 | ret=>intro E hty hC hD α kb fr a w h k r hk Q hQ;exact wp_ret (hQ .ret fr _ hk a w h)
 | _=>intro E hty hC hD α kb fr a w h k r hk Q hQ;simp [execI] at hk
theorem RepV.isW {w:World} {p:Prot} {g:Nat→Value} {u:Nat→Prop} {v:Value} {a:AV} (h:RepV w p g u v a) (hc:a.isW=true):RepW w p g u v a:=by
 rcases h with rfl | h | ⟨_,_,rfl,rfl,_⟩
 ·cases hc
 ·exact h
 ·cases hc
theorem sim_rawAll {α:Type} {E:Env} {w:World} {p:Prot} {g:Nat→Value} (hty:∀ t i,E.ty t=some i→mkTI P t=some i) {sl:Nat→AV} {tmps:Array Value} {st:Nat→Blk} (h:SInv B M w0 p0 w p g st) (hsl:∀ t,RepV w p g (used st) (tmps.getD t undef) (sl t)):∀ {rs:List ResultVar} {k:List AV→(Nat→Blk)→FP→Option α} {r:α},
  rawAll E sl rs st k=some r→∃ xs vs fp,(rs.mapM (resultOf tmps)).run P w = .ok xs w∧k vs st fp=some r∧Cells (RepV w p g (used st)) xs vs
 | [],k,r,hk=>⟨[],[],_,by simp,hk,.nil⟩
 | rv::rs,k,r,hk=>by
  simp only [rawAll] at hk
  have one:∃ x v fp,(resultOf tmps rv).run P w = .ok x w∧RepV w p g (used st) x v∧(rawAll E sl rs st fun l st2 f2=>k (v::l) st2 (FP.add fp f2))=some r:=by
   cases rv with
   | tmp t=>exact ⟨_,_,_,rfl,hsl t,hk⟩
   | cell c t =>
    simp only [rawRes] at hk
    obtain ⟨ti,hti,hk2⟩:=bind_inv hk
    obtain ⟨v,fp,hk3,hg⟩:=sim_doLoadR (fr:=⟨sl,st⟩) hty (hty _ _ hti) h (hsl c) hk2
    obtain ⟨x,e1,e4⟩:=hg
    have hptr:∃ b,tmps.getD c undef = .pointer (some b):=by
     have hv:=hsl c
     unfold doLoad at hk2
     split at hk2
     ·rename_i hs;rw [hs] at hv;obtain ⟨_,β,_,e⟩:=hv.ptr;exact ⟨_,e⟩
     ·rename_i hs;rw [hs] at hv
      have hi:=hv.rptr
      generalize tmps.getD c undef=y at hi
      cases hi;exact ⟨_,rfl⟩
     ·rename_i hs;rw [hs] at hv;obtain ⟨_,β,j,b',_,e,_⟩:=hv.pptr;exact ⟨_,e⟩
     ·rename_i hs;rw [hs] at hv;obtain ⟨_,β,_,e⟩:=hv.eptr;exact ⟨_,e⟩
     ·cases hk2
    obtain ⟨b,hb⟩:=hptr
    have hrun:(resultOf tmps (.cell c t)).run P w = .ok x w:=by
     rw [hb] at e1
     simp only [resultOf,hb]
     simpa [Instr.loadAt,Instr.sureAddr,asAddr] using e1
    exact ⟨x,v,fp,hrun,e4,hk3⟩
  obtain ⟨x,v,fp,h1,h2,h3⟩:=one
  obtain ⟨xs,vs,fp2,g1,g2,g3⟩:=sim_rawAll hty h hsl h3
  exact ⟨x::xs,v::vs,_,by simp [List.mapM_cons,h1,g1],g2,.cons h2 g3⟩
theorem sim_runI {E : Env} (hty : ∀ t i, E.ty t = some i → mkTI P t = some i) (hC : ∀ kb, CallOK P { E with kb := kb } rts) (hD : ∀ kb, DrawOK P { E with kb := kb } rts) {f : FuncId} {fn : Func} (hf : P.funcs[f]? = some fn) (hname : fn.name ≠ "runtime.NumGoroutine")
  {w:World} {p:Prot} {g:Nat→Value} {st:Nat→Blk} (h:SInv B M w0 p0 w p g st) (hG:GlobOK E w p) {kb:Nat} {args:List AV} {xs:List Value} (hx:Cells (RepV w p g (used st)) xs args) {v:AV} {st':Nat→Blk} {fp:FP} (hk:runI E rts fn _ kb args st trip=some (v,st',fp)) :
  CallsX P f xs.toArray w fun x w'=>∃ p' g',SInv B M w0 p0 w' p' g' st'∧Mono w p g (used st) w' p' g' (used st')∧RepV w' p' g' (used st') x v:=by
 unfold runI at hk
 split at hk
 ·cases hk
 ·rename_i c hbody
  obtain ⟨hle,hk1⟩:=chk_inv hk
  have hle':args.length≤fn.ntmps:=Nat.le_of_ble_eq_true hle
  refine .inl ⟨by simp [callFunc,hf,hname,hbody],?_⟩
  have hS:Stable (fun w' p' g' u'=>Mono w p g (used st) w' p' g' u'):=fun hm h=>h.trans hm
  have hinv:Inv fn.ntmps B M w0 p0 w p g { tmps:=xs.toArray++Array.replicate (fn.ntmps-xs.toArray.size) undef,defers:=[] } ⟨bindArgs args,st⟩:=by
   refine ⟨h,rfl,by simp [hx.len];omega,fun t=> ?_⟩
   simp only [bindArgs]
   cases hat:args[t]? with
   | none=>exact .inl rfl
   | some y =>
    obtain ⟨x,hxt,hr⟩:=hx.get hat
    have hlt:t<xs.toArray.size:=by simpa using (List.getElem?_eq_some_iff.1 hxt).1
    have hget:(xs.toArray++Array.replicate (fn.ntmps-xs.toArray.size) undef).getD t undef=x:=by
     rw [Array.getD_eq_getD_getElem?,Array.getElem?_append_left hlt]
     have:xs.toArray[t]? = some x:=by simpa using hxt
     rw [this];rfl
    rw [hget]
    exact hr
  refine calls_of_wp hf hbody (sim_execI (S:=fun w' p' g' u'=>Mono w p g (used st) w' p' g' u') hS c hty hC hD ⟨p,g,hinv,hG,Mono.refl⟩ hk1 _ fun e fr f hk2 a' w' hok=> ?_)
  obtain ⟨p1,g1,hi,hG1,hm⟩:=hok
  have key:(rawAll E fr.slots fn.results.toList fr.st fun vs st2 f2=>chk (allW vs) (trip (oneAV vs) st2 (f.add f2)))=some (v,st',fp) →
    a'.defers=[]∧∃ y,(results fn a'.tmps).run P w' = .ok y w'∧∃ v',Ending.returned y = .returned v'∧∃ p' g',SInv B M w0 p0 w' p' g' st'∧Mono w p g (used st) w' p' g' (used st')∧RepV w' p' g' (used st') v' v:=by
   intro hk3
   obtain ⟨ys,vs,fp2,r1,r2,r3⟩:=sim_rawAll hty hi.s hi.slots hk3
   obtain ⟨hw,r4⟩:=chk_inv r2
   cases r4
   refine ⟨hi.defers,_,run_results r1,_,rfl,p1,g1,hi.s,hm,?_⟩
   have hw':Cells (RepW w' p1 g1 (used fr.st)) ys vs:=⟨r3.len,fun i x a hx ha=>(r3.each i x a hx ha).isW (allW_mem hw a (List.mem_of_getElem? ha))⟩
   unfold oneOrMore oneAV
   cases vs with
   | nil =>
    rw [hw'.nil_iff]
    exact .inr (.inr ⟨#[],[],rfl,rfl,.nil⟩)
   | cons a vs =>
    obtain ⟨y,ys',rfl,h1,h2⟩:=hw'.uncons
    cases vs with
    | nil =>
     rw [h2.nil_iff]
     exact .inr (.inl h1)
    | cons b vs =>
     obtain ⟨y2,ys2,rfl,_,_⟩:=h2.uncons
     exact .inr (.inr ⟨_,_,rfl,rfl,hw'⟩)
  cases e with
  | normal=>exact key hk2
  | ret=>exact key hk2
  | exit j=>cases hk2
end
end Go.Abs
