/- A law of the program: what is left of its row once the interpreter says true. -/
import Derived.Test.YtiplnpablmohiaaGreatAbsBridge
namespace Go.Abs
open Go.ChangeShapes Go.WideShapes Go.ChangeAt Go.RowKit
set_option linter.unusedVariables false
def ConfArgs (ty:Nat→Option TI):List Nat→List AV→Prop
 | [],l=>l=[]
 | t::ts,l=>∃ i cs r,ty t=some i∧Conf ty 20 t cs∧l=wrapAV i.kind cs::r∧ConfArgs ty ts r
section
variable {ty:Nat→Option TI} {n t:Nat} {i:TI} {l:List AV}
theorem Conf.bool (hi:ty t=some i) (hk:i.kind = .bool) (h:Conf ty (n+1) t l):∃ b,l=[.bool b]:=by
 obtain ⟨i',h1,h2⟩:=h
 rw [hi] at h1;cases h1;rw [hk] at h2;exact h2
theorem Conf.u8 (hi:ty t=some i) (hk:i.kind = .u8) (h:Conf ty (n+1) t l):∃ b,l=[.u8 b]:=by
 obtain ⟨i',h1,h2⟩:=h
 rw [hi] at h1;cases h1;rw [hk] at h2;exact h2
theorem Conf.int {k:IntKind} (hi:ty t=some i) (hk:i.kind = .int k) (h:Conf ty (n+1) t l):∃ m,l=[.int k m]∧(Lit.int k m).wf=true:=by
 obtain ⟨i',h1,h2⟩:=h
 rw [hi] at h1;cases h1;rw [hk] at h2;exact h2
theorem Conf.str (hi:ty t=some i) (hk:i.kind = .str) (h:Conf ty (n+1) t l):∃ s,l=[.str s]∧s.length≤maxLen:=by
 obtain ⟨i',h1,h2⟩:=h
 rw [hi] at h1;cases h1;rw [hk] at h2;exact h2
theorem Conf.bs {e:Nat} (hi:ty t=some i) (hk:i.kind = .slice e true) (h:Conf ty (n+1) t l):∃ s,l=[.bs s]∧s.length≤maxLen:=by
 obtain ⟨i',h1,h2⟩:=h
 rw [hi] at h1;cases h1;rw [hk] at h2;exact h2
theorem Conf.sl {e:Nat} (hi:ty t=some i) (hk:i.kind = .slice e false) (h:Conf ty (n+1) t l):∃ ei els,ty e=some ei∧l=[.sl ei.size els]∧els.length≤maxLen∧∀ x∈els,∃ cs,Conf ty n e cs∧x=wrapAV ei.kind cs:=by
 obtain ⟨i',h1,h2⟩:=h
 rw [hi] at h1;cases h1;rw [hk] at h2;exact h2
theorem Conf.struct {fs:List (Nat×Nat)} (hi:ty t=some i) (hk:i.kind = .struct fs) (h:Conf ty (n+1) t l):ConfL (Conf ty n) fs l:=by
 obtain ⟨i',h1,h2⟩:=h
 rw [hi] at h1;cases h1;rw [hk] at h2;exact h2
end
section
variable {P:Program} {ty:Nat→Option TI} {w:World} {H:Type} {enc:TypeId×Value→H}
theorem trod_arg (hty:∀ t i,ty t=some i→mkTI P t=some i) {t:Nat} {v:Value} {d:DataW H} {ps:List MemPlace} {base:Nat} (h:DataW.Trod enc P w 0 (fun _=>true) true t v d ps) (hc:covers ty 20 t=true) (hok:Value.okWide P w .any base t v) :
    ∃ i cs,ty t=some i∧Conf ty 20 t cs∧RepO w (pfull w) v (wrapAV i.kind cs):=by
  obtain ⟨fuel,h⟩:=h
  obtain ⟨l,h1,h2⟩:=trod_conf hty fuel 20 t _ d ps h hc
  have h2':=h2
  obtain ⟨i,hi,hk⟩:=h2'
  have hu:=kind_under (hty t i hi)
  refine ⟨i,l,hi,h2,?_⟩
  have single:(∀ arr,v ≠ .agg arr)→(∀ x,v.cells.toList=[x]→x=v)→isAggK i.kind=false→(∃ a,l=[a])→RepO w (pfull w) v (wrapAV i.kind l):=by
    intro _ hx hag ⟨a,ha⟩
    subst ha
    obtain ⟨x,vs,e,hr,hvs⟩:=h1.uncons
    have hn:=hvs.nil_iff
    subst hn
    have:=hx x e
    subst this
    left
    unfold wrapAV
    rw [hag]
    exact hr
  cases hkd:i.kind with
  | struct fs =>
    rw [hkd] at hu
    obtain ⟨gs,hu1,_⟩:=hu
    unfold Value.okWide at hok
    rw [hu1] at hok
    obtain ⟨arr,rfl,_⟩:=hok
    right
    exact ⟨arr,l,rfl,rfl,by simpa [Value.cells] using h1⟩
  | arr a b c=>rw [hkd] at hk;cases hk
  | ptr e=>rw [hkd] at hk;cases hk
  | other=>rw [hkd] at hk;cases hk
  | _ =>
    rw [← hkd]
    have hna:∀ arr,v ≠ .agg arr:=by
      rintro arr rfl
      rw [hkd] at hu
      simp only at hu
      first
        | (rw [Value.okWide,hu.1] at hok;simp [Cell.okWide,hu.1,Cell.ok] at hok;done)
        | (rw [Value.okWide,hu] at hok;simp [Cell.okWide,hu,Cell.ok] at hok;done)
    refine single hna ?_ (by rw [hkd];rfl) ?_
    · intro x hx
      cases v<;>simp [Value.cells] at hx<;>first | exact hx.symm | exact absurd rfl (hna _)
    · rw [hkd] at hk
      first
        | (obtain ⟨m,rfl,_⟩:=hk;exact ⟨_,rfl⟩)
        | (obtain ⟨m,rfl⟩:=hk;exact ⟨_,rfl⟩)
        | (rename_i e b;cases b
           · obtain ⟨_,_,_,rfl,_⟩:=hk;exact ⟨_,rfl⟩
           · obtain ⟨m,rfl,_⟩:=hk;exact ⟨_,rfl⟩)
theorem trod_args (hty:∀ t i,ty t=some i→mkTI P t=some i) {base:Nat}:∀ {ts:List TypeId} {vs:List Value} {ds:List (DataW H)} {ps:List MemPlace},DataW.TrodAll enc P w 0 (fun _=>true) true ts vs ds ps→(∀ t∈ts,covers ty 20 t=true) →
  (∀ (j:Nat) t v,ts[j]? = some t→vs[j]? = some v→Value.okWide P w .any base t v) →
  ∃ l,ConfArgs ty ts l∧vs.length=l.length∧ds.length=ts.length∧∀ (j:Nat) (v:Value) (a:AV),vs[j]? = some v→l[j]? = some a→RepO w (pfull w) v a
 | [],vs,ds,ps,h,_,_=>by
  cases vs<;>cases ds<;>simp [DataW.TrodAll] at h
  exact ⟨[],rfl,rfl,rfl,fun j v a hv=>by simp at hv⟩
 | t::ts,vs,ds,ps,h,hc,hok=>by
  obtain ⟨v,vs',d,ds',p,q,rfl,rfl,rfl,h1,h2⟩:=trodAll_cons h
  obtain ⟨i,cs,hi,hcf,hr⟩:=trod_arg hty h1 (hc t (by simp)) (hok 0 t v rfl rfl)
  obtain ⟨l,g1,g2,g3,g4⟩:=trod_args hty h2 (fun t ht=>hc t (by simp [ht])) fun j t v ht hv=>hok (j+1) t v (by simpa using ht) (by simpa using hv)
  refine ⟨wrapAV i.kind cs::l,⟨i,cs,l,hi,hcf,rfl,g1⟩,by simp [g2],by simp [g3],fun j v' a hv ha=> ?_⟩
  cases j with
  | zero=>simp at hv ha;subst hv;subst ha;exact hr
  | succ j=>simp at hv ha;exact g4 j v' a hv ha
theorem trod_back {W W':World} (hl:laidOutB P=true) (hb:Below W.heap.size W W'):∀ {ts:List TypeId} {vs:List Value} {ds:List (DataW H)} {ps:List MemPlace},DataW.TrodAll enc P W 0 (fun _=>true) true ts vs ds ps→(∀ t∈ts,P.readableRec t=true∧t<P.types.size) →
  ∃ pa,DataW.TrodAll enc P W' 0 (fun b=>decide (b<W.heap.size)) true ts vs ds pa
 | [],vs,ds,ps,h,_=>by
  cases vs<;>cases ds<;>simp [DataW.TrodAll] at h
  exact ⟨[],rfl⟩
 | t::ts,vs,ds,ps,h,hr=>by
  obtain ⟨v,vs',d,ds',p,q,rfl,rfl,rfl,h1,h2⟩:=trodAll_cons h
  have lt:∀ x∈p,x.block<W.heap.size:=by obtain ⟨m,hm⟩:=h1;exact DataW.trod_lt m _ _ _ hm
  obtain ⟨pa,h3⟩:=trod_back hl hb h2 fun t ht=>hr t (by simp [ht])
  exact ⟨_,trodAll_cons_mk (Below.trod hl (hr t (by simp)).1 (hr t (by simp)).2 h1 hb lt) h3⟩
theorem law_calls {G:Cfg2} (hP:TabOK P G) {f k:Nat} {args:Array Value} {l:List AV} {W:World} (hg:GlobOK ⟨G.ty,fun _=>[],G.own,callOf G.tab k,G.glob,[],0,fun _=>none⟩ W (pfull W)) (hr:∀ (j:Nat) (v:Value) (a:AV),args[j]? = some v→l[j]? = some a→RepO W (pfull W) v a) (hlen:args.size=l.length)
  {rt:Nat} (hrts:G.rts f=some [rt]) (hcall:callOf G.tab k f l []=some (.bool true,[])) (hent:∀ vs (w:World),(callFunc f vs).run P w = .ok (.enter f vs) w) :
  Calls P f args W fun e W'=>e = .returned (.bool true)∧Below W.heap.size W W':=by
 have h:=(tab_ok hP k 0 (fun _=>[]) [] 0).call f l [] _ _ _ hcall hrts W (pfull W) args (fun _=>0) (pfull_new W) hg hlen (fun j v a hv ha => .inl (hr j v a hv ha)) ⟨fun j cs h=>(by cases h),(by simp),fun j j' cs cs' h=>(by cases h)⟩
 have fin:∀ (v:Value) (w':World),(∃ p',Kept (fun β=>∃ j cs,(j,cs)∈([]:List (Nat×List AV))∧(fun _=>0) j=β) W (pfull W) w' p'∧ResRep ⟨G.ty,fun _=>[],G.own,callOf G.tab k,G.glob,[],0,fun _=>none⟩ W.heap.size w' p' [rt] v (.bool true)∧BlksOut w' p' (fun _=>0) [] [])→v = .bool true∧Below W.heap.size W w':=by
  rintro v w' ⟨p',hk,hres,_⟩
  refine ⟨?_,hk.os,hk.tape,hk.output,hk.size,fun β hβ=>hk.block β hβ fun ⟨j,cs,hm,_⟩=>by cases hm⟩
  simp only [ResRep,Res1] at hres
  rcases hres with h | ⟨_,_,_,_,_,h,_⟩ | ⟨_,_,_,_,_,_,_,_,h,_⟩
  ·rcases h with h | ⟨_,_,_,h,_⟩
   ·cases h;rfl
   ·cases h
  ·cases h
  ·cases h
 rcases h with ⟨_,hc⟩ | ⟨v,w',hrun,_⟩
 ·refine hc.mono ?_
  rintro e w' ⟨v,rfl,hv⟩
  obtain ⟨h1,h2⟩:=fin v w' hv
  exact ⟨by rw [h1],h2⟩
 ·rw [hent] at hrun;cases hrun
end
theorem law_contract_at {C : Checked} {G : Cfg2} (hP : TabOK C.prog G) (hl : laidOutB C.prog = true) {f k : Nat} {fn : Func} {rt : Nat} (hf : C.prog.funcs[f]? = some fn) (hname : fn.name ≠ "runtime.NumGoroutine") (hbody : fn.body.isSome = true)
  (hres:fn.resultTypes.toList=[rt]) (hrt:C.prog.underlying rt=some .bool) (hrts:G.rts f=some [rt])
  (hcov:∀ t∈fn.params.toList,covers G.ty 20 t=true∧C.prog.readableRec t=true∧t<C.prog.types.size)
  {s:ChangeSpec} (hsv:s.vars=[]) (hsf:∀ (H:Type) (ds:List (DataW H)),ds.length=fn.params.toList.length→s.fn H ds=⟨[.lit (.bool true)],ds,[]⟩)
  (hlaw:∀ l,ConfArgs G.ty fn.params.toList l→callOf G.tab k f l []=some (.bool true,[]))
  {H:Type} {enc:TypeId×Value→H} {conds:List PathCond} {a:Assume} :
  ∀ (W:World) (base:Nat) (args:Array Value) (ds gs:List (DataW H)) (before:List MemPlace),GlobOK ⟨G.ty,fun _=>[],G.own,callOf G.tab k,G.glob,[],0,fun _=>none⟩ W (pfull W) →
   (∀ (j:Nat) t v,fn.params[j]? = some t→args[j]? = some v→Value.okWide C.prog W .any base t v) →
   DataW.Whole enc C.prog fn.params.toList s.vars false W args.toList ds gs before →
   conds.all (PathCond.test C.prog ⟨fn.params.toList,ds,s.plain.varTypes C.prog,gs⟩)=true →
   a.holds C.prog (lone (Frame.enter C.prog f args .normal) [] W) →
   Calls C.prog f args W fun e W'=>∃ v,e = .returned v∧s.post enc C.prog fn false true false false W args v W':=by
 intro W base args ds gs before hg hval hW _ _
 have hW':=hW
 obtain ⟨p,q,hA,hV,rfl,hfz,hnd⟩:=hW
 rw [hsv] at hV
 obtain ⟨rfl,rfl⟩:=trodVars_none hV
 obtain ⟨l,h1,h2,h3,h4⟩:=trod_args hP.ty (base:=base) hA (fun t ht=>(hcov t ht).1) fun j t v ht hv=>hval j t v (by simpa using ht) (by simpa using hv)
 have hent:∀ vs (w:World),(callFunc f vs).run C.prog w = .ok (.enter f vs) w:=fun vs w=>by
  obtain ⟨c,hc⟩:=Option.isSome_iff_exists.1 hbody
  simp [callFunc,hf,hname,hc]
 refine (law_calls hP hg (fun j v a hv ha=>h4 j v a (by simpa using hv) ha) (by simpa using h2) hrts (hlaw l h1) hent).mono fun e W' ⟨he,bel⟩=> ?_
 subst he
 obtain ⟨pa,h5⟩:=trod_back hl bel hA fun t ht=>(hcov t ht).2
 have e1:s.fn H (ds++[])=⟨[.lit (.bool true)],ds,[]⟩:=by rw [List.append_nil];exact hsf H ds h3
 refine ⟨_,rfl,ds,[],_,[],pa,[],hW',?_,?_,?_,bel.frame _,fun h=>by cases h⟩
 ·rw [e1,hres]
  have hsz:fn.resultTypes.size=1:=by have:=congrArg List.length hres;simpa using this
  rw [hsz]
  exact trodAll_mk1 (shut_bool hrt _)
 ·rw [e1];exact h5
 ·rw [e1,hsv];rfl
theorem law_contract {C : Checked} {G : Cfg2} (hP : TabOK C.prog G) (hg : G.glob = fun _ => none) (hl : laidOutB C.prog = true) {f k : Nat} {fn : Func} {rt : Nat} (hf : C.prog.funcs[f]? = some fn) (hname : fn.name ≠ "runtime.NumGoroutine") (hbody : fn.body.isSome = true)
  (hres:fn.resultTypes.toList=[rt]) (hrt:C.prog.underlying rt=some .bool) (hrts:G.rts f=some [rt])
  (hcov:∀ t∈fn.params.toList,covers G.ty 20 t=true∧C.prog.readableRec t=true∧t<C.prog.types.size)
  {s:ChangeSpec} (hsv:s.vars=[]) (hsf:∀ (H:Type) (ds:List (DataW H)),ds.length=fn.params.toList.length→s.fn H ds=⟨[.lit (.bool true)],ds,[]⟩)
  (hlaw:∀ l,ConfArgs G.ty fn.params.toList l→callOf G.tab k f l []=some (.bool true,[]))
  {H:Type} {enc:TypeId×Value→H} {conds:List PathCond} {a:Assume} :
  ∀ (W:World) (base:Nat) (args:Array Value) (ds gs:List (DataW H)) (before:List MemPlace),
   (∀ (j:Nat) t v,fn.params[j]? = some t→args[j]? = some v→Value.okWide C.prog W .any base t v) →
   DataW.Whole enc C.prog fn.params.toList s.vars false W args.toList ds gs before →
   conds.all (PathCond.test C.prog ⟨fn.params.toList,ds,s.plain.varTypes C.prog,gs⟩)=true →
   a.holds C.prog (lone (Frame.enter C.prog f args .normal) [] W) →
   Calls C.prog f args W fun e W'=>∃ v,e = .returned v∧s.post enc C.prog fn false true false false W args v W':=by
 intro W base args ds gs before
 exact law_contract_at hP hl hf hname hbody hres hrt hrts hcov hsv hsf hlaw (conds:=conds) (a:=a) W base args ds gs before (fun q cs hq=>by simp [hg] at hq)
end Go.Abs
