/- Functions. -/
import Derived.Test.YtaikjfcgemjghaaGreatAbsCode
namespace Go.Abs
set_option linter.unusedVariables false
section
variable {P:Program} {n B:Nat} {M:Nat→Prop} {w0:World} {p0:Prot} {w:World} {p:Prot} {g:Nat→Value} {E:Env} {rts:Nat→Option (List Nat)}
def ResAt (E:Env) (w:World) (p:Prot) (g:Nat→Value) (st:Nat→Blk) (L:List Nat) (ty:Nat) (v:Value) (a:AV):Prop :=
 RepO w p v a ∨
 (∃ i e l,E.ty ty=some i∧i.kind = .slice e true∧a = .ownB l∧((l=[]∧∃ x,v = .slice x 0 0)∨∃ r∈L,v=g r∧st r = .rowB e l false)) ∨
 (∃ i e ei l,E.ty ty=some i∧i.kind = .slice e false∧E.ty e=some ei∧a = .ownL l∧((l=[]∧0<ei.size∧∃ x,v = .slice x 0 0)∨∃ r∈L,v=g r∧st r = .rowL e ei.size l false))
theorem ResAt.mono {st st1:Nat→Blk} {L L1:List Nat} {ty:Nat} {v:Value} {a:AV} {p1:Prot} (h:ResAt E w p g st L ty v a) (hp:∀ β,p β≤p1 β) (hs:∀ r∈L,st1 r=st r) (hL:∀ r∈L,r∈L1):ResAt E w p1 g st1 L1 ty v a:=by
 rcases h with h | ⟨i,e,l,h1,h2,h3,h4⟩ | ⟨i,e,ei,l,h1,h2,h3,h4,h5⟩
 ·exact .inl (h.mono hp fun _ _ _=>rfl)
 ·refine .inr (.inl ⟨i,e,l,h1,h2,h3,?_⟩)
  rcases h4 with h4 | ⟨r,hr,e1,e2⟩
  ·exact .inl h4
  ·exact .inr ⟨r,hL r hr,e1,(hs r hr).trans e2⟩
 ·refine .inr (.inr ⟨i,e,ei,l,h1,h2,h3,h4,?_⟩)
  rcases h5 with h5 | ⟨r,hr,e1,e2⟩
  ·exact .inl h5
  ·exact .inr ⟨r,hL r hr,e1,(hs r hr).trans e2⟩
theorem ResAt.res1 {st:Nat→Blk} {L:List Nat} {ty:Nat} {v:Value} {a:AV} (h:ResAt E w p g st L ty v a) (hS:SInv B M w0 p0 w p g st):Res1 E B w p ty v a:=by
 rcases h with h | ⟨i,e,l,h1,h2,h3,h4⟩ | ⟨i,e,ei,l,h1,h2,h3,h4,h5⟩
 ·exact .inl h
 ·refine .inr (.inl ⟨i,e,l,h1,h2,h3,?_⟩)
  rcases h4 with ⟨rfl,x,hx⟩ | ⟨r,hr,rfl,e2⟩
  ·exact ⟨⟨by simp,.inl ⟨rfl,x,hx⟩⟩,fun β hv=>by rw [hx] at hv;cases x<;>simp [vblk] at hv⟩
  ·have:=hS.blk r
   rw [e2] at this
   exact ⟨this.1,fun β hv=>(this.2 β hv).2 rfl⟩
 ·rcases h5 with ⟨rfl,hz,x,hx⟩ | ⟨r,hr,rfl,e2⟩
  ·exact .inr (.inr ⟨i,e,ei,[],[],h1,h2,h3,h4,hz,fun y hm=>absurd hm (by simp),⟨by simp,.inl ⟨rfl,x,hx⟩⟩,Cells.nil,fun β hv=>by rw [hx] at hv;cases x<;>simp [vblk] at hv⟩)
  ·have:=hS.blk r
   rw [e2] at this
   obtain ⟨f0,f1,vs,f2,f3,f4⟩:=this
   exact .inr (.inr ⟨i,e,ei,l,vs,h1,h2,h3,h4,f0,f1,f2,f3,fun β hv=>(f4 β hv).2 rfl⟩)
structure Later (w:World) (p:Prot) (g:Nat→Value) (st:Nat→Blk) (L:List Nat) (p1:Prot) (st1:Nat→Blk) (L1:List Nat):Prop where
 m:Mono w p g (used st) w p1 g (used st1)
 same:∀ r∈L,st1 r=st r
 lock:∀ r∈L,r∈L1
 pres:Pres st st1
theorem Later.refl {st:Nat→Blk} {L:List Nat}:Later w p g st L p st L:=⟨Mono.refl,fun _ _=>rfl,fun _ h=>h,Pres.refl⟩
theorem Later.trans {st st1 st2:Nat→Blk} {L L1 L2:List Nat} {p1 p2:Prot} (h:Later w p g st L p1 st1 L1) (k:Later w p1 g st1 L1 p2 st2 L2):Later w p g st L p2 st2 L2 :=
 ⟨h.m.trans k.m,fun r hr=>(k.same r (h.lock r hr)).trans (h.same r hr),fun r hr=>k.lock r (h.lock r hr),h.pres.trans k.pres⟩
theorem out_later {α:Type} {i:TI} {x:Value} {v:AV} {st:Nat→Blk} {L:List Nat} (h:SInv B M w0 p0 w p g st) (hx:RepV w p g (used st) x v) {k:AV→(Nat→Blk)→Option α} {r:α}
  (hk:(out i v st fun a st1 fp=>chk (fp.wr.all fun x => !L.contains x) (k a st1))=some r):∃ a st1 p1,k a st1=some r∧SInv B M w0 p0 w p1 g st1∧Later w p g st L p1 st1 L∧RepO w p1 x a:=by
 obtain ⟨y,st1,fp,hk2,loc⟩:=(loc_out i v).go hk
 have ht:=loc.here _ trip
 obtain ⟨x',st1',fp',p1,e,hs1,hm1,hr1,hp1⟩:=sim_out' h hx ht
 cases e
 obtain ⟨hc,hk3⟩:=chk_inv hk2
 refine ⟨_,_,p1,hk3,hs1,⟨hm1,fun r hr=>loc.eff r fun hw=> ?_,fun _ h=>h,hp1⟩,hr1⟩
 have:=List.all_eq_true.1 hc r hw
 simp at this;exact this hr
theorem outCs_later {α:Type} {cts:List CT} {xs:List Value} {vs:List AV} {st:Nat→Blk} {L:List Nat} (h:SInv B M w0 p0 w p g st) (hx:Cells (RepC w p g (used st)) xs vs) {k:List AV→(Nat→Blk)→Option α} {r:α}
  (hk:(outCs cts vs st fun a st1 fp=>chk (fp.wr.all fun x => !L.contains x) (k a st1))=some r):∃ a st1 p1,k a st1=some r∧SInv B M w0 p0 w p1 g st1∧Later w p g st L p1 st1 L∧Cells (RepI w p1) xs a:=by
 obtain ⟨y,st1,fp,hk2,loc⟩:=(loc_outCs cts vs).go hk
 have ht:=loc.here _ trip
 obtain ⟨x',st1',fp',p1,e,hs1,hm1,hr1,hp1⟩:=sim_outCs' h hx ht
 cases e
 obtain ⟨hc,hk3⟩:=chk_inv hk2
 refine ⟨_,_,p1,hk3,hs1,⟨hm1,fun r hr=>loc.eff r fun hw=> ?_,fun _ h=>h,hp1⟩,hr1⟩
 have:=List.all_eq_true.1 hc r hw
 simp at this;exact this hr
theorem sim_resFin {α:Type} {ty:Nat} {i:TI} (hi:E.ty ty=some i) {st:Nat→Blk} {L:List Nat} (h:SInv B M w0 p0 w p g st) {own:Bool} {x:Value} {v:AV} (hx:RepV w p g (used st) x v) {k:AV→(Nat→Blk)→List Nat→Option α} {r:α}
  (hk:resFin E i st L own v k=some r):∃ a st1 L1 p1,k a st1 L1=some r∧SInv B M w0 p0 w p1 g st1∧Later w p g st L p1 st1 L1∧ResAt E w p1 g st1 L1 ty x a∧(own=false→RepO w p1 x a):=by
 have plain:∀ (hk:(out i v st fun a st1 fp=>chk (fp.wr.all fun x => !L.contains x) (k a st1 L))=some r),∃ a st1 L1 p1,k a st1 L1=some r∧SInv B M w0 p0 w p1 g st1∧Later w p g st L p1 st1 L1∧ResAt E w p1 g st1 L1 ty x a∧(own=false→RepO w p1 x a):=by
  intro hk
  obtain ⟨a,st1,p1,hk1,hs,hl,hr⟩:=out_later (k:=fun a st1=>k a st1 L) h hx hk
  exact ⟨a,st1,L,p1,hk1,hs,hl,.inl hr,fun _=>hr⟩
 unfold resFin at hk
 cases own with
 | false=>exact plain hk
 | true =>
  simp only at hk
  split at hk
  ·rename_i e hkd
   split at hk
   ·obtain ⟨y,rfl⟩:=hx.nils
    exact ⟨_,_,_,p,hk,h,Later.refl,.inr (.inl ⟨i,e,[],hi,hkd,rfl,.inl ⟨rfl,y,rfl⟩⟩),fun hh=>by cases hh⟩
   ·rename_i r'
    obtain ⟨hu,hxe,_⟩:=hx.row
    split at hk
    ·rename_i e' l hst
     obtain ⟨hc,hk1⟩:=chk_inv hk
     simp only [Bool.and_eq_true] at hc
     have hee:e=e':=Nat.eq_of_beq_eq_true hc.1
     subst hee
     exact ⟨_,_,_,p,hk1,h,⟨Mono.refl,fun _ _=>rfl,fun _ hr=>by simp [hr],Pres.refl⟩,.inr (.inl ⟨i,e,l,hi,hkd,rfl,.inr ⟨r',by simp,hxe,hst⟩⟩),fun hh=>by cases hh⟩
    ·cases hk
   ·cases hk
  ·rename_i e hkd
   split at hk
   ·cases hk
   ·rename_i ei hei
    split at hk
    ·obtain ⟨y,rfl⟩:=hx.nils
     obtain ⟨hz,hk1⟩:=chk_inv hk
     exact ⟨_,_,_,p,hk1,h,Later.refl,.inr (.inr ⟨i,e,ei,[],hi,hkd,hei,rfl,.inl ⟨rfl,by simpa using hz,y,rfl⟩⟩),fun hh=>by cases hh⟩
    ·rename_i r'
     obtain ⟨hu,hxe,_⟩:=hx.row
     split at hk
     ·rename_i e' z l hst
      obtain ⟨hc,hk1⟩:=chk_inv hk
      simp only [Bool.and_eq_true] at hc
      have hee:e=e':=Nat.eq_of_beq_eq_true hc.1.1
      have hzz:z=ei.size:=Nat.eq_of_beq_eq_true hc.1.2
      subst hee
      subst hzz
      exact ⟨_,_,_,p,hk1,h,⟨Mono.refl,fun _ _=>rfl,fun _ hr=>by simp [hr],Pres.refl⟩,.inr (.inr ⟨i,e,ei,l,hi,hkd,hei,rfl,.inr ⟨r',by simp,hxe,hst⟩⟩),fun hh=>by cases hh⟩
     ·cases hk
    ·cases hk
  ·exact plain hk
def resultOf (tmps:Array Value):ResultVar→Sem Value
 | .tmp t=>pure (tmps.getD t undef)
 | .cell a t=>do loadVar t (← asAddr (tmps.getD a undef))
theorem sim_resVal {α:Type} (hty:∀ t i,E.ty t=some i→mkTI P t=some i) {sl:Nat→AV} {tmps:Array Value} {ty:Nat} {st:Nat→Blk} {L:List Nat} (h:SInv B M w0 p0 w p g st) (hsl:∀ t,RepV w p g (used st) (tmps.getD t undef) (sl t)) {own:Bool} {rv:ResultVar} {k:AV→(Nat→Blk)→List Nat→Option α} {r:α}
  (hk:resVal E sl st L rv ty own k=some r):∃ x a st1 L1 p1,(resultOf tmps rv).run P w = .ok x w∧k a st1 L1=some r∧SInv B M w0 p0 w p1 g st1∧Later w p g st L p1 st1 L1∧ResAt E w p1 g st1 L1 ty x a∧(own=false→RepO w p1 x a):=by
 unfold resVal at hk
 obtain ⟨i,hi,hk1⟩:=bind_inv hk
 cases rv with
 | tmp t =>
  obtain ⟨a,st1,L1,p1,h1⟩:=sim_resFin hi h (hsl t) hk1
  exact ⟨_,a,st1,L1,p1,rfl,h1⟩
 | cell c t =>
  obtain ⟨ti,hti,hk2⟩:=bind_inv hk1
  obtain ⟨v,fp,hk3,hg⟩:=sim_doLoadR (fr:=⟨sl,st⟩) hty (hty _ _ hti) h (hsl c) hk2
  obtain ⟨x,e1,e4⟩:=hg
  have hptr:∃ b,tmps.getD c undef = .pointer (some b):=by
   have hv:=hsl c
   unfold doLoad at hk2
   split at hk2
   ·rename_i hs;rw [hs] at hv;obtain ⟨_,β,_,e⟩:=hv.ptr;exact ⟨_,e⟩
   ·rename_i hs;rw [hs] at hv
    have hi:=hv.rptr
    generalize tmps.getD c undef=y at hi
    cases hi;exact ⟨_,rfl⟩
   ·rename_i hs;rw [hs] at hv;obtain ⟨_,β,j,b',_,e,_⟩:=hv.pptr;exact ⟨_,e⟩
   ·rename_i hs;rw [hs] at hv;obtain ⟨_,β,_,e⟩:=hv.eptr;exact ⟨_,e⟩
   ·cases hk2
  obtain ⟨b,hb⟩:=hptr
  have hrun:(resultOf tmps (.cell c t)).run P w = .ok x w:=by
   rw [hb] at e1
   simp only [resultOf,hb]
   simpa [Instr.loadAt,Instr.sureAddr,asAddr] using e1
  obtain ⟨a,st1,L1,p1,h1⟩:=sim_resFin hi h e4 hk3
  exact ⟨x,a,st1,L1,p1,hrun,h1⟩
theorem sim_resAll {α:Type} (hty:∀ t i,E.ty t=some i→mkTI P t=some i) {sl:Nat→AV} {tmps:Array Value}:∀ {rs:List ResultVar} {tys:List Nat} {st:Nat→Blk} {L:List Nat} {own:Bool} {p:Prot},SInv B M w0 p0 w p g st→(∀ t,RepV w p g (used st) (tmps.getD t undef) (sl t))→∀ {k:List AV→(Nat→Blk)→List Nat→Option α} {r:α},
  resAll E sl rs tys st L own k=some r→∃ xs as st1 L1 p1,(rs.mapM (resultOf tmps)).run P w = .ok xs w∧k as st1 L1=some r∧SInv B M w0 p0 w p1 g st1∧Later w p g st L p1 st1 L1∧xs.length=tys.length∧as.length=tys.length ∧
   (∀ x a ty,xs[0]? = some x→as[0]? = some a→tys[0]? = some ty→ResAt E w p1 g st1 L1 ty x a)∧(∀ (j:Nat) x a,(own=false∨0<j)→xs[j]? = some x→as[j]? = some a→RepO w p1 x a)
 | [],[],st,L,own,p,h,hsl,k,r,hk=>by
  simp only [resAll] at hk
  exact ⟨[],[],st,L,p,by simp,hk,h,Later.refl,rfl,rfl,fun _ _ _ h=>by simp at h,fun _ _ _ _ h=>by simp at h⟩
 | rv::rs,ty::tys,st,L,own,p,h,hsl,k,r,hk=>by
  simp only [resAll] at hk
  obtain ⟨x,a,st1,L1,p1,h1,hk1,hs1,hl1,hr1,ho1⟩:=sim_resVal hty h hsl hk
  obtain ⟨xs,as,st2,L2,p2,h2,hk2,hs2,hl2,hx,ha,_,hr2⟩:=sim_resAll hty hs1 (fun t=>hl1.m.repV (hsl t)) hk1
  refine ⟨x::xs,a::as,st2,L2,p2,by simp [List.mapM_cons,h1,h2],hk2,hs2,hl1.trans hl2,by simp [hx],by simp [ha],fun y b ty' hy hb ht=> ?_,fun j y b hj hy hb=> ?_⟩
  ·simp at hy hb ht
   subst hy;subst hb;subst ht
   exact hr1.mono hl2.m.prot hl2.same hl2.lock
  ·cases j with
   | zero =>
    simp at hy hb
    subst hy;subst hb
    rcases hj with hj | hj
    ·exact (ho1 hj).mono hl2.m.prot fun _ _ _=>rfl
    ·omega
   | succ j =>
    simp at hy hb
    exact hr2 j y b (.inl rfl) hy hb
 | [],_::_,_,_,_,_,_,_,_,_,hk=>by simp [resAll] at hk
 | _::_,[],_,_,_,_,_,_,_,_,hk=>by simp [resAll] at hk
theorem sim_outBlks {α:Type} {bk:Nat→Nat} {tys:List Nat}:∀ {blks:List (Nat×List AV)} {st:Nat→Blk} {L:List Nat} {p:Prot},SInv B M w0 p0 w p g st→(∀ j cs,(j,cs)∈blks→g j = .pointer (some ⟨bk j,0,none⟩))→∀ {k:Blocks→Option α} {r:α},
  outBlks E blks tys st L k=some r→∃ bs st1 p1,k bs=some r∧SInv B M w0 p0 w p1 g st1∧Later w p g st L p1 st1 L∧BlksOut w p1 bk blks bs
 | [],st,L,p,h,hg,k,r,hk=>by
  simp only [outBlks] at hk
  exact ⟨[],st,p,hk,h,Later.refl,rfl,fun i j cs cs' hi=>by simp at hi⟩
 | (b,cs0)::blks,st,L,p,h,hg,k,r,hk=>by
  simp only [outBlks] at hk
  split at hk
  ·rename_i cs e _ _ _ _ _ hst _
   obtain ⟨ei,hei,hk1⟩:=bind_inv hk
   have hb:=h.blk b
   rw [hst] at hb
   obtain ⟨β0,c,e',h1,h2,h3,h4,h5⟩:=hb
   have hbk:bk b=β0:=by
    have:=hg b cs0 (by simp)
    rw [this] at h1;cases h1;rfl
   obtain ⟨l,st1,p1,hk2,hs1,hl1,hc1⟩:=outCs_later (k:=fun l st1=>outBlks E blks tys st1 L fun bs=>k (l::bs)) h h4 hk1
   obtain ⟨bs,st2,p2,hk3,hs2,hl2,hbo⟩:=sim_outBlks hs1 (fun j cs hm=>hg j cs (by simp [hm])) hk2
   refine ⟨_,st2,p2,hk3,hs2,hl1.trans hl2,by simp [hbo.len],fun i j cs1 cs2 hi hj=> ?_⟩
   cases i with
   | zero =>
    simp at hi hj
    obtain ⟨rfl,rfl⟩:=hi
    subst hj
    rw [hbk]
    exact ⟨c,e',h3,hc1.imp fun _ _ hr=>hr.mono hl2.m.prot fun _ _ _=>rfl⟩
   | succ i =>
    simp at hi hj
    exact hbo.each i j cs1 cs2 hi hj
  ·cases hk
def oneOrMore:List Value→Value
 | [x]=>x
 | xs => .tuple xs.toArray
theorem run_results {fn:Func} {tmps:Array Value} {xs:List Value} (h:(fn.results.toList.mapM (resultOf tmps)).run P w = .ok xs w):(results fn tmps).run P w = .ok (oneOrMore xs) w:=by
 have e:results fn tmps=(do let vs ← fn.results.mapM (resultOf tmps);pure (if h:vs.size=1 then vs[0] else .tuple vs)):=by
  unfold results
  congr 1
 rw [e,Array.mapM_eq_mapM_toList]
 cases xs with
 | nil=>simp [h,oneOrMore]
 | cons x r =>
  cases r with
  | nil=>simp [h,oneOrMore]
  | cons y r=>simp [h,oneOrMore]
end
end Go.Abs
