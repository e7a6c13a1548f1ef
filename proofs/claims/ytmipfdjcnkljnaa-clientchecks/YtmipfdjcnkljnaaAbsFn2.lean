/- Code. -/
import Derived.Test.YtmipfdjcnkljnaaAbsLoop
open Nat renaming eq_of_beq_eq_true→Zz
namespace Go.Abs
set_option linter.unusedVariables false
def Ex.toExit:Ex→Exit
 | .normal => .normal
 | .ret => .ret
 | .exit j => .exit j
theorem loopM_inv {σ ρ:Type} {step:σ→Option (σ ⊕ ρ)} {s:σ} {r:ρ} (h:loopM step s=some r):∃ m,loopN step m s=some r:=by
 unfold loopM at h
 split at h
 ·rename_i hx
  have:=Classical.choose_spec (Classical.choose_spec hx)
  rw [Option.some.inj h] at this
  exact ⟨_,this⟩
 ·cases h
section
variable {P:Program} {n B:Nat} {M:Nat→Prop} {w0:World} {p0:Prot} {g0:Nat→Value} {E:Env} {rts:Nat→Option (List Nat)}
def DrawOK (P:Program) (E:Env) (rts:Nat→Option (List Nat)):Prop :=
 ∀ {n B:Nat} {M:Nat→Prop} {w0:World} {p0:Prot} {S:World→Prot→(Nat→Value)→(Nat→Prop)→Prop} {α:Type} {ops:Array Oper} {id:Nat} {fr:Fr} {a:Act} {w:World} {k:Fr→Option α} {r:α},Stable S→OkS E n B M w0 p0 S a w fr →
  (execOps E rts n ops.toList ops.toList fr fun fr' fps=>bif indep ops.toList fps then k fr' else none)=some r →
  ∀ (Q:Exit→Act→World→Prop),(∀ fr',k fr'=some r→∀ a' w',OkS E n B M w0 p0 S a' w' fr'→Q .normal a' w')→(Code.region id ops true).wp P Q a w
def KOk (E:Env) (n B:Nat) (M:Nat→Prop) (w0:World) (p0:Prot) (g0:Nat→Value) (hs:List Keep) (l:List AV) (a:Act) (w:World):Prop :=
 ∀ {β:Type} {k2:Fr→Option β} {R':β},restore E hs l (baseFr E) k2=some R'→∃ fr,k2 fr=some R'∧Ok E n B M w0 p0 g0 a w fr
theorem collect_kok {α:Type} {hs:List Keep} {fr:Fr} {a:Act} {w:World} (h:Ok E n B M w0 p0 g0 a w fr) {kk:List AV→Option α} {R:α} (hk:collect E fr hs kk=some R):∃ l,kk l=some R∧KOk E n B M w0 p0 g0 hs l a w:=by
 obtain ⟨p,g,hi,hG,hH⟩:=h
 obtain ⟨l,hl,hr⟩:=collect_ok (H:=E.hand) hi.s hi.slots hk
 refine ⟨l,hl,fun {β k2 R'} hres=> ?_⟩
 have hb:∀ k,((baseFr E).st k = .free∧k ∉ E.hand)∨((baseFr E).st k = .dead∧k∈E.hand):=fun k=>by
  simp only [baseFr]
  cases hc:E.hand.contains k with
  | true=>exact .inr ⟨rfl,by simpa using hc⟩
  | false=>exact .inl ⟨rfl,by simpa using hc⟩
 have h0:CR E.hand B M w0 p0 w p g fr.st [] a (baseFr E) g (fun _=>none):=by
  refine ⟨hi.s,fun k hl=> ?_,fun k j _ hk=>(by cases hk),fun k1 k2 j _ _ hk=>(by cases hk),fun t => .inl rfl,fun k hk=> ?_,fun k hk=>⟨?_,rfl⟩,fun k hd=> ?_⟩
  ·rcases hb k with ⟨h,_⟩ | ⟨h,_⟩<;>(rw [h] at hl;exact hl.elim)
  ·rcases hb k with ⟨h,_⟩ | ⟨h,_⟩<;>(rw [h] at hk;cases hk)
  ·rcases hb k with ⟨_,h⟩ | ⟨h,_⟩
   ·exact absurd hk h
   ·unfold used;rw [h];simp
  ·rcases hb k with ⟨h,_⟩ | ⟨_,h⟩
   ·rw [h] at hd;cases hd
   ·exact h
 obtain ⟨fr2,p2,st2,L2,g2,φ2,r1,r2,r3⟩:=hr h0 hres
 exact ⟨fr2,r1,p2,g2,r2.inv hi.defers hi.size,hG.mono r3 fun _ _ _=>rfl,fun k hk=>⟨(r2.hand k hk).1,(r2.hand k hk).2.trans (hH k hk).2⟩⟩
theorem sim_exec (hty:∀ t i,E.ty t=some i→mkTI P t=some i) (hC:CallOK P E rts) (hD:DrawOK P E rts) (c:Code):∀ {α:Type} {fr:Fr} {a:Act} {w:World} (_:Ok E n B M w0 p0 g0 a w fr) {k:Ex→Fr→Option α} {r:α},exec E rts n c α fr k=some r →
  ∀ (Q:Exit→Act→World→Prop),(∀ e fr',k e fr'=some r→∀ a' w',Ok E n B M w0 p0 g0 a' w' fr'→Q e.toExit a' w')→c.wp P Q a w:=by
 induction c with
 | skip=>intro α fr a w h k r hk Q hQ;exact wp_skip (hQ .normal fr hk a w h)
 | label l=>intro α fr a w h k r hk Q hQ;exact wp_label (hQ .normal fr hk a w h)
 | region id ops draw =>
  intro α fr a w h k r hk Q hQ
  have go:∀ {β:Type} {k2:Fr→Option β} {r2:β},(execOps E rts n ops.toList ops.toList fr fun fr' fps=>chk (!draw||indep ops.toList fps) (k2 fr'))=some r2 →
    (∀ fr',k2 fr'=some r2→∀ a' w',Ok E n B M w0 p0 g0 a' w' fr'→Q .normal a' w')→(Code.region id ops draw).wp P Q a w:=by
   intro β k2 r2 hk hQ2
   cases draw with
   | false =>
    simp only [Bool.not_false,Bool.true_or,chk,cond_true] at hk
    exact wp_region (sim_execOps handS_stable hty hC h (range_map ops) hk Q fun fr' fps hk2 a' w' hi=>hQ2 fr' hk2 a' w' hi)
   | true =>
    simp only [Bool.not_true,Bool.false_or,chk] at hk
    exact hD handS_stable h hk Q fun fr' hk2 a' w' hi=>hQ2 fr' hk2 a' w' hi
  simp only [exec] at hk
  split at hk
  ·exact go hk fun fr' hk2 a' w' hi=>hQ .normal fr' hk2 a' w' hi
  ·obtain ⟨l,hl,hk2⟩:=bind_inv hk
   refine go hl fun fr' hk3 a' w' hi=> ?_
   obtain ⟨l',hl',hK⟩:=collect_kok hi hk3
   cases hl'
   obtain ⟨fr2,hk5,hok⟩:=hK hk2
   exact hQ .normal fr2 hk5 a' w' hok
 | seq x y ihx ihy =>
  intro α fr a w h k r hk Q hQ
  simp only [exec] at hk
  refine wp_seq (ihx h hk _ fun e fr' hk2 a' w' hi=> ?_)
  cases e with
  | normal=>exact ihy hi hk2 Q hQ
  | ret=>exact hQ .ret fr' hk2 a' w' hi
  | exit j=>exact hQ (.exit j) fr' hk2 a' w' hi
 | cond c x y ihx ihy =>
  intro α fr a w h k r hk Q hQ
  have go:∀ {β:Type} {k2:Ex→Fr→Option β} {r2:β},((evalO E fr c).bind fun v=>v.onBool fun t=>sel t (exec E rts n x β fr k2) (exec E rts n y β fr k2))=some r2 →
    (∀ e fr',k2 e fr'=some r2→∀ a' w',Ok E n B M w0 p0 g0 a' w' fr'→Q e.toExit a' w')→(Code.cond c x y).wp P Q a w:=by
   intro β k2 r2 hk hQ2
   obtain ⟨v,hv,hk1⟩:=bind_inv hk
   obtain ⟨t,rfl,hk2⟩:=onBool_inv hk1
   obtain ⟨p,g,hi,hG,hH⟩:=h
   have hc:=(evalO_rep hG hi.slots hv).bool
   have h':Ok E n B M w0 p0 g0 a w fr:=⟨p,g,hi,hG,hH⟩
   cases t with
   | true=>exact wp_cond_true hc (ihx h' hk2 Q hQ2)
   | false=>exact wp_cond_false hc (ihy h' hk2 Q hQ2)
  simp only [exec] at hk
  split at hk
  ·exact go hk hQ
  ·obtain ⟨l,hl,hk2⟩:=bind_inv hk
   refine go hl fun e fr' hk3 a' w' hi=> ?_
   cases e with
   | normal =>
    obtain ⟨l',hl',hK⟩:=collect_kok hi (show collect E fr' _ some=some l from hk3)
    cases hl'
    obtain ⟨fr2,hk5,hok⟩:=hK hk2
    exact hQ .normal fr2 hk5 a' w' hok
   | ret=>cases hk3
   | exit j=>cases hk3
 | block id x ih =>
  intro α fr a w h k r hk Q hQ
  simp only [exec] at hk
  refine wp_block (ih h hk _ fun e fr' hk2 a' w' hi=> ?_)
  cases e with
  | normal=>exact hQ .normal fr' hk2 a' w' hi
  | ret=>exact hQ .ret fr' hk2 a' w' hi
  | exit j =>
   simp only [Ex.blockK] at hk2
   simp only [Ex.toExit,Exit.inBlock]
   by_cases hj:j=id
   ·subst hj
    have:Nat.beq j j=true:=by simp
    rw [this] at hk2
    rw [if_pos rfl]
    exact hQ .normal fr' hk2 a' w' hi
   ·have:Nat.beq j id=false:=by
     cases hb:Nat.beq j id
     ·rfl
     ·exact absurd (Zz hb) hj
    rw [this] at hk2
    rw [if_neg hj]
    exact hQ (.exit j) fr' hk2 a' w' hi
 | loop x ih =>
  intro α fr a w h k r hk Q hQ
  simp only [exec] at hk
  obtain ⟨l0,hk1,hK0⟩:=collect_kok h hk
  obtain ⟨rr,hl,hk2⟩:=bind_inv hk1
  obtain ⟨m,hm⟩:=loopM_inv hl
  refine wp_loop_ghost (fun m a w=>∃ l,KOk E n B M w0 p0 g0 (E.keep (firstRegion x)) l a w∧loopN (fun st=>restore E (E.keep (firstRegion x)) st (baseFr E) fun fr0=>exec E rts n x (List AV ⊕ (Ex×List AV)) fr0 fun e fr' =>
     collect E fr' (E.keep (firstRegion x)) fun st'=>some (e.loopK st')) m l=some rr) m ⟨l0,hK0,hm⟩ ?_
  rintro m' a' w' ⟨l,hK,hloop⟩
  cases m' with
  | zero=>cases hloop
  | succ m' =>
   simp only [loopN] at hloop
   generalize hstep:(restore E (E.keep (firstRegion x)) l (baseFr E) fun fr0=>exec E rts n x (List AV ⊕ (Ex×List AV)) fr0 fun e fr'=>collect E fr' (E.keep (firstRegion x)) fun st'=>some (e.loopK st'))=res at hloop
   cases res with
   | none=>cases hloop
   | some res =>
    obtain ⟨fr0,hex,hok⟩:=hK hstep
    refine ih hok hex _ fun e fr' hk3 a2 w2 hi=> ?_
    obtain ⟨l2,hk4,hK2⟩:=collect_kok hi hk3
    cases hk4
    cases e with
    | normal=>exact ⟨m',Nat.lt_succ_self _,l2,hK2,hloop⟩
    | ret =>
     simp only [Ex.loopK] at hloop
     cases hloop
     obtain ⟨fr2,hk5,hok2⟩:=hK2 hk2
     exact hQ .ret fr2 (Ex.out_inv hk5) a2 w2 hok2
    | exit j =>
     simp only [Ex.loopK] at hloop
     cases hloop
     obtain ⟨fr2,hk5,hok2⟩:=hK2 hk2
     exact hQ (.exit j) fr2 (Ex.out_inv hk5) a2 w2 hok2
 | exit id=>intro α fr a w h k r hk Q hQ;exact wp_exit (hQ (.exit id) fr hk a w h)
 | ret=>intro α fr a w h k r hk Q hQ;exact wp_ret (hQ .ret fr hk a w h)
 | _=>intro α fr a w h k r hk Q hQ;simp [exec] at hk
end
end Go.Abs
/- Functions. -/
namespace Go.Abs
set_option linter.unusedVariables false
section
variable {P:Program} {n B:Nat} {M:Nat→Prop} {w0:World} {p0:Prot} {w:World} {p:Prot} {g:Nat→Value} {E:Env} {rts:Nat→Option (List Nat)}
def ResAt (E:Env) (w:World) (p:Prot) (g:Nat→Value) (st:Nat→Blk) (L:List Nat) (ty:Nat) (v:Value) (a:AV):Prop :=
 RepO w p v a ∨
 (∃ i e l,E.ty ty=some i∧i.kind = .slice e true∧a = .ownB l∧((l=[]∧∃ x,v = .slice x 0 0)∨∃ r∈L,v=g r∧st r = .rowB e l false)) ∨
 (∃ i e ei l,E.ty ty=some i∧i.kind = .slice e false∧E.ty e=some ei∧a = .ownL l∧((l=[]∧0<ei.size∧∃ x,v = .slice x 0 0)∨∃ r∈L,v=g r∧st r = .rowL e ei.size l false)) ∨
 (∃ i fs j e ei arr cs l r,E.ty ty=some i∧i.kind = .struct fs∧slAt E.ty fs=some (j,e,ei)∧v = .agg arr∧a = .agg cs∧cs[j]? = some (.ownL l)∧arr.toList.length=cs.length∧r∈L∧arr.toList[j]? = some (g r)∧st r = .rowL e ei.size l false∧∀ (m:Nat) (x:Value) (c:AV),m≠j→arr.toList[m]? = some x→cs[m]? = some c→RepI w p x c)
theorem ResAt.mono {st st1:Nat→Blk} {L L1:List Nat} {ty:Nat} {v:Value} {a:AV} {p1:Prot} (h:ResAt E w p g st L ty v a) (hp:∀ β,p β≤p1 β) (hs:∀ r∈L,st1 r=st r) (hL:∀ r∈L,r∈L1):ResAt E w p1 g st1 L1 ty v a:=by
 rcases h with h | ⟨i,e,l,h1,h2,h3,h4⟩ | ⟨i,e,ei,l,h1,h2,h3,h4,h5⟩ | ⟨i,fs,j,e,ei,arr,cs,l,r,h1,h2,h3,h4,h5,h6,h7,h8,h9,h10,h11⟩
 ·exact .inl (h.mono hp fun _ _ _=>rfl)
 ·refine .inr (.inl ⟨i,e,l,h1,h2,h3,?_⟩)
  rcases h4 with h4 | ⟨r,hr,e1,e2⟩
  ·exact .inl h4
  ·exact .inr ⟨r,hL r hr,e1,(hs r hr).trans e2⟩
 ·refine .inr (.inr (.inl ⟨i,e,ei,l,h1,h2,h3,h4,?_⟩))
  rcases h5 with h5 | ⟨r,hr,e1,e2⟩
  ·exact .inl h5
  ·exact .inr ⟨r,hL r hr,e1,(hs r hr).trans e2⟩
 ·exact .inr (.inr (.inr ⟨i,fs,j,e,ei,arr,cs,l,r,h1,h2,h3,h4,h5,h6,h7,hL r h8,h9,(hs r h8).trans h10,fun m x c hm hx hc=>(h11 m x c hm hx hc).mono hp fun _ _ _=>rfl⟩))
theorem ResAt.res1 {st:Nat→Blk} {L:List Nat} {ty:Nat} {v:Value} {a:AV} (h:ResAt E w p g st L ty v a) (hS:SInv B M w0 p0 w p g st):Res1 E B w p ty v a:=by
 rcases h with h | ⟨i,e,l,h1,h2,h3,h4⟩ | ⟨i,e,ei,l,h1,h2,h3,h4,h5⟩ | ⟨i,fs,j,e,ei,arr,cs,l,r,h1,h2,h3,h4,h5,h6,h7,h8,h9,h10,h11⟩
 ·exact .inl h
 ·refine .inr (.inl ⟨i,e,l,h1,h2,h3,?_⟩)
  rcases h4 with ⟨rfl,x,hx⟩ | ⟨r,hr,rfl,e2⟩
  ·exact ⟨⟨by simp,.inl ⟨rfl,x,hx⟩⟩,fun β hv=>by rw [hx] at hv;cases x<;>simp [vblk] at hv⟩
  ·have:=hS.blk r
   rw [e2] at this
   exact ⟨this.1,fun β hv=>(this.2 β hv).2 rfl⟩
 ·rcases h5 with ⟨rfl,hz,x,hx⟩ | ⟨r,hr,rfl,e2⟩
  ·exact .inr (.inr (.inl ⟨i,e,ei,[],[],h1,h2,h3,h4,hz,fun y hm=>absurd hm (by simp),⟨by simp,.inl ⟨rfl,x,hx⟩⟩,Cells.nil,fun β hv=>by rw [hx] at hv;cases x<;>simp [vblk] at hv⟩))
  ·have:=hS.blk r
   rw [e2] at this
   obtain ⟨f0,f1,vs,f2,f3,f4⟩:=this
   exact .inr (.inr (.inl ⟨i,e,ei,l,vs,h1,h2,h3,h4,f0,f1,f2,f3,fun β hv=>(f4 β hv).2 rfl⟩))
 ·have:=hS.blk r
  rw [h10] at this
  obtain ⟨f0,f1,vs,f2,f3,f4⟩:=this
  exact .inr (.inr (.inr ⟨i,fs,j,e,ei,arr,cs,l,g r,vs,h1,h2,h3,h4,h5,h6,h7,h9,f0,f1,f2,f3,fun β hv=>(f4 β hv).2 rfl,h11⟩))
structure Later (w:World) (p:Prot) (g:Nat→Value) (st:Nat→Blk) (L:List Nat) (p1:Prot) (st1:Nat→Blk) (L1:List Nat):Prop where
 m:Mono w p g (used st) w p1 g (used st1)
 same:∀ r∈L,st1 r=st r
 lock:∀ r∈L,r∈L1
 pres:Pres st st1
theorem Later.refl {st:Nat→Blk} {L:List Nat}:Later w p g st L p st L:=⟨Mono.refl,fun _ _=>rfl,fun _ h=>h,Pres.refl⟩
theorem Later.trans {st st1 st2:Nat→Blk} {L L1 L2:List Nat} {p1 p2:Prot} (h:Later w p g st L p1 st1 L1) (k:Later w p1 g st1 L1 p2 st2 L2):Later w p g st L p2 st2 L2 :=
 ⟨h.m.trans k.m,fun r hr=>(k.same r (h.lock r hr)).trans (h.same r hr),fun r hr=>k.lock r (h.lock r hr),h.pres.trans k.pres⟩
theorem out_later {α:Type} {i:TI} {x:Value} {v:AV} {st:Nat→Blk} {L:List Nat} (h:SInv B M w0 p0 w p g st) (hx:RepV w p g (used st) x v) {k:AV→(Nat→Blk)→Option α} {r:α}
  (hk:(out i v st fun a st1 fp=>chk (fp.wr.all fun x => !L.contains x) (k a st1))=some r):∃ a st1 p1,k a st1=some r∧SInv B M w0 p0 w p1 g st1∧Later w p g st L p1 st1 L∧RepO w p1 x a:=by
 obtain ⟨y,st1,fp,hk2,loc⟩:=(loc_out i v).go hk
 have ht:=loc.here _ trip
 obtain ⟨x',st1',fp',p1,e,hs1,hm1,hr1,hp1⟩:=sim_out' h hx ht
 cases e
 obtain ⟨hc,hk3⟩:=chk_inv hk2
 refine ⟨_,_,p1,hk3,hs1,⟨hm1,fun r hr=>loc.eff r fun hw=> ?_,fun _ h=>h,hp1⟩,hr1⟩
 have:=List.all_eq_true.1 hc r hw
 simp at this;exact this hr
theorem outCs_later {α:Type} {cts:List CT} {xs:List Value} {vs:List AV} {st:Nat→Blk} {L:List Nat} (h:SInv B M w0 p0 w p g st) (hx:Cells (RepC w p g (used st)) xs vs) {k:List AV→(Nat→Blk)→Option α} {r:α}
  (hk:(outCs cts vs st fun a st1 fp=>chk (fp.wr.all fun x => !L.contains x) (k a st1))=some r):∃ a st1 p1,k a st1=some r∧SInv B M w0 p0 w p1 g st1∧Later w p g st L p1 st1 L∧Cells (RepI w p1) xs a:=by
 obtain ⟨y,st1,fp,hk2,loc⟩:=(loc_outCs cts vs).go hk
 have ht:=loc.here _ trip
 obtain ⟨x',st1',fp',p1,e,hs1,hm1,hr1,hp1⟩:=sim_outCs' h hx ht
 cases e
 obtain ⟨hc,hk3⟩:=chk_inv hk2
 refine ⟨_,_,p1,hk3,hs1,⟨hm1,fun r hr=>loc.eff r fun hw=> ?_,fun _ h=>h,hp1⟩,hr1⟩
 have:=List.all_eq_true.1 hc r hw
 simp at this;exact this hr
theorem sim_resFin {α:Type} {ty:Nat} {i:TI} (hi:E.ty ty=some i) {st:Nat→Blk} {L:List Nat} (h:SInv B M w0 p0 w p g st) {own:Bool} {x:Value} {v:AV} (hx:RepV w p g (used st) x v) {k:AV→(Nat→Blk)→List Nat→Option α} {r:α}
  (hk:resFin E i st L own v k=some r):∃ a st1 L1 p1,k a st1 L1=some r∧SInv B M w0 p0 w p1 g st1∧Later w p g st L p1 st1 L1∧ResAt E w p1 g st1 L1 ty x a∧(own=false→RepO w p1 x a):=by
 have plain:∀ (hk:(out i v st fun a st1 fp=>chk (fp.wr.all fun x => !L.contains x) (k a st1 L))=some r),∃ a st1 L1 p1,k a st1 L1=some r∧SInv B M w0 p0 w p1 g st1∧Later w p g st L p1 st1 L1∧ResAt E w p1 g st1 L1 ty x a∧(own=false→RepO w p1 x a):=by
  intro hk
  obtain ⟨a,st1,p1,hk1,hs,hl,hr⟩:=out_later (k:=fun a st1=>k a st1 L) h hx hk
  exact ⟨a,st1,L,p1,hk1,hs,hl,.inl hr,fun _=>hr⟩
 unfold resFin at hk
 cases own with
 | false=>exact plain hk
 | true =>
  simp only at hk
  split at hk
  ·rename_i e hkd
   split at hk
   ·obtain ⟨y,rfl⟩:=hx.nils
    exact ⟨_,_,_,p,hk,h,Later.refl,.inr (.inl ⟨i,e,[],hi,hkd,rfl,.inl ⟨rfl,y,rfl⟩⟩),fun hh=>by cases hh⟩
   ·rename_i r'
    obtain ⟨hu,hxe,_⟩:=hx.row
    split at hk
    ·rename_i e' l hst
     obtain ⟨hc,hk1⟩:=chk_inv hk
     simp only [Bool.and_eq_true] at hc
     have hee:e=e':=Zz hc.1
     subst hee
     exact ⟨_,_,_,p,hk1,h,⟨Mono.refl,fun _ _=>rfl,fun _ hr=>by simp [hr],Pres.refl⟩,.inr (.inl ⟨i,e,l,hi,hkd,rfl,.inr ⟨r',by simp,hxe,hst⟩⟩),fun hh=>by cases hh⟩
    ·cases hk
   ·cases hk
  ·rename_i e hkd
   split at hk
   ·cases hk
   ·rename_i ei hei
    split at hk
    ·obtain ⟨y,rfl⟩:=hx.nils
     obtain ⟨hz,hk1⟩:=chk_inv hk
     exact ⟨_,_,_,p,hk1,h,Later.refl,.inr (.inr (.inl ⟨i,e,ei,[],hi,hkd,hei,rfl,.inl ⟨rfl,by simpa using hz,y,rfl⟩⟩)),fun hh=>by cases hh⟩
    ·rename_i r'
     obtain ⟨hu,hxe,_⟩:=hx.row
     split at hk
     ·rename_i e' z l hst
      obtain ⟨hc,hk1⟩:=chk_inv hk
      simp only [Bool.and_eq_true] at hc
      have hee:e=e':=Zz hc.1.1
      have hzz:z=ei.size:=Zz hc.1.2
      subst hee
      subst hzz
      exact ⟨_,_,_,p,hk1,h,⟨Mono.refl,fun _ _=>rfl,fun _ hr=>by simp [hr],Pres.refl⟩,.inr (.inr (.inl ⟨i,e,ei,l,hi,hkd,hei,rfl,.inr ⟨r',by simp,hxe,hst⟩⟩)),fun hh=>by cases hh⟩
     ·cases hk
    ·cases hk
  ·rename_i fs hkd
   unfold finStr at hk
   split at hk
   ·rename_i j e ei hrt
    split at hk
    case h_2=>cases hk
    rename_i cs
    split at hk
    case h_2=>cases hk
    ·rename_i r' hj
     split at hk
     ·rename_i e' z l hst
      obtain ⟨hc,hk1⟩:=chk_inv hk
      simp only [Bool.and_eq_true] at hc
      have hee:e=e':=Zz hc.1.1
      have hzz:z=ei.size:=Zz hc.1.2
      subst hee
      subst hzz
      obtain ⟨arr,rfl,hcells⟩:∃ arr,x = .agg arr∧Cells (RepC w p g (used st)) arr.toList cs:=by
       rcases hx with hx | (hx | ⟨arr,cs',h1,h2,h3⟩) | ⟨_,_,_,hx,_⟩
       ·cases hx
       ·cases hx with
        | imm h=>cases h
       ·cases h2;exact ⟨arr,h1,h3⟩
       ·cases hx
      have hlt:j<cs.length:=by rw [List.getElem?_eq_some_iff] at hj;exact hj.1
      obtain ⟨y,hy⟩:∃ y,arr.toList[j]? = some y:=⟨_,List.getElem?_eq_getElem (by rw [hcells.len];exact hlt)⟩
      have hyr:=hcells.each j y _ hy hj
      have hye:y=g r':=by
       cases hyr with
       | imm h=>cases h
       | row hu hs=>rfl
      subst hye
      have hc2:Cells (RepC w p g (used st)) (arr.toList.set j (.bool false)) (cs.set j (.bool false)):=by
       refine ⟨by simpa using hcells.len,fun m v c hv hc=> ?_⟩
       rcases Decidable.em (m=j) with q | q
       ·subst q
        rw [List.getElem?_set_self (by rw [hcells.len];exact hlt)] at hv
        rw [List.getElem?_set_self hlt] at hc
        cases hv
        cases hc
        exact .imm .bool
       ·rw [List.getElem?_set_ne (fun h=>q h.symm)] at hv hc
        exact hcells.each m v c hv hc
      obtain ⟨a,st1,p1,hk2,hs,hl,hr⟩:=outCs_later (L:=r'::L) (k:=fun a st1=>k (.agg (a.set j (.ownL l))) st1 (r'::L)) h hc2 hk1
      have hla:a.length=cs.length:=by have:=hr.len;simp only [List.length_set] at this;rw [← this,hcells.len]
      refine ⟨_,_,_,p1,hk2,hs,⟨hl.m,fun q hq=>hl.same q (by simp [hq]),fun q hq=>by simp [hq],hl.pres⟩,.inr (.inr (.inr ⟨i,fs,j,e,ei,arr,_,l,r',hi,hkd,hrt,rfl,rfl,List.getElem?_set_self (by rw [hla];exact hlt),by rw [List.length_set,hla,hcells.len],by simp,hy,(hl.same r' (by simp)).trans hst,fun m v c hm hv hc=> ?_⟩)),fun hh=>by cases hh⟩
      rw [List.getElem?_set_ne (fun h=>hm h.symm)] at hc
      exact hr.each m v c (by rw [List.getElem?_set_ne (fun h=>hm h.symm)];exact hv) hc
     ·cases hk
   ·exact plain hk
  ·exact plain hk
def resultOf (tmps:Array Value):ResultVar→Sem Value
 | .tmp t=>pure (tmps.getD t undef)
 | .cell a t=>do loadVar t (← asAddr (tmps.getD a undef))
theorem sim_resVal {α:Type} (hty:∀ t i,E.ty t=some i→mkTI P t=some i) {sl:Nat→AV} {tmps:Array Value} {ty:Nat} {st:Nat→Blk} {L:List Nat} (h:SInv B M w0 p0 w p g st) (hsl:∀ t,RepV w p g (used st) (tmps.getD t undef) (sl t)) {own:Bool} {rv:ResultVar} {k:AV→(Nat→Blk)→List Nat→Option α} {r:α}
  (hk:resVal E sl st L rv ty own k=some r):∃ x a st1 L1 p1,(resultOf tmps rv).run P w = .ok x w∧k a st1 L1=some r∧SInv B M w0 p0 w p1 g st1∧Later w p g st L p1 st1 L1∧ResAt E w p1 g st1 L1 ty x a∧(own=false→RepO w p1 x a):=by
 unfold resVal at hk
 obtain ⟨i,hi,hk1⟩:=bind_inv hk
 cases rv with
 | tmp t =>
  obtain ⟨a,st1,L1,p1,h1⟩:=sim_resFin hi h (hsl t) hk1
  exact ⟨_,a,st1,L1,p1,rfl,h1⟩
 | cell c t =>
  obtain ⟨ti,hti,hk2⟩:=bind_inv hk1
  obtain ⟨v,fp,hk3,hg⟩:=sim_doLoadR (fr:=⟨sl,st⟩) hty (hty _ _ hti) h (hsl c) hk2
  obtain ⟨x,e1,e4⟩:=hg
  have hptr:∃ b,tmps.getD c undef = .pointer (some b):=by
   have hv:=hsl c
   unfold doLoad at hk2
   split at hk2
   ·rename_i hs;rw [hs] at hv;obtain ⟨_,β,_,e⟩:=hv.ptr;exact ⟨_,e⟩
   ·rename_i hs;rw [hs] at hv
    have hi:=hv.rptr
    generalize tmps.getD c undef=y at hi
    cases hi;exact ⟨_,rfl⟩
   ·rename_i hs;rw [hs] at hv;obtain ⟨_,β,j,b',_,e,_⟩:=hv.pptr;exact ⟨_,e⟩
   ·rename_i hs;rw [hs] at hv;obtain ⟨_,β,_,e⟩:=hv.eptr;exact ⟨_,e⟩
   ·cases hk2
  obtain ⟨b,hb⟩:=hptr
  have hrun:(resultOf tmps (.cell c t)).run P w = .ok x w:=by
   rw [hb] at e1
   simp only [resultOf,hb]
   simpa [Instr.loadAt,Instr.sureAddr,asAddr] using e1
  obtain ⟨a,st1,L1,p1,h1⟩:=sim_resFin hi h e4 hk3
  exact ⟨x,a,st1,L1,p1,hrun,h1⟩
theorem sim_resAll {α:Type} (hty:∀ t i,E.ty t=some i→mkTI P t=some i) {sl:Nat→AV} {tmps:Array Value}:∀ {rs:List ResultVar} {tys:List Nat} {st:Nat→Blk} {L:List Nat} {own:Bool} {p:Prot},SInv B M w0 p0 w p g st→(∀ t,RepV w p g (used st) (tmps.getD t undef) (sl t))→∀ {k:List AV→(Nat→Blk)→List Nat→Option α} {r:α},
  resAll E sl rs tys st L own k=some r→∃ xs as st1 L1 p1,(rs.mapM (resultOf tmps)).run P w = .ok xs w∧k as st1 L1=some r∧SInv B M w0 p0 w p1 g st1∧Later w p g st L p1 st1 L1∧xs.length=tys.length∧as.length=tys.length ∧
   (∀ x a ty,xs[0]? = some x→as[0]? = some a→tys[0]? = some ty→ResAt E w p1 g st1 L1 ty x a)∧(∀ (j:Nat) x a,(own=false∨0<j)→xs[j]? = some x→as[j]? = some a→RepO w p1 x a)
 | [],[],st,L,own,p,h,hsl,k,r,hk=>by
  simp only [resAll] at hk
  exact ⟨[],[],st,L,p,by simp,hk,h,Later.refl,rfl,rfl,fun _ _ _ h=>by simp at h,fun _ _ _ _ h=>by simp at h⟩
 | rv::rs,ty::tys,st,L,own,p,h,hsl,k,r,hk=>by
  simp only [resAll] at hk
  obtain ⟨x,a,st1,L1,p1,h1,hk1,hs1,hl1,hr1,ho1⟩:=sim_resVal hty h hsl hk
  obtain ⟨xs,as,st2,L2,p2,h2,hk2,hs2,hl2,hx,ha,_,hr2⟩:=sim_resAll hty hs1 (fun t=>hl1.m.repV (hsl t)) hk1
  refine ⟨x::xs,a::as,st2,L2,p2,by simp [List.mapM_cons,h1,h2],hk2,hs2,hl1.trans hl2,by simp [hx],by simp [ha],fun y b ty' hy hb ht=> ?_,fun j y b hj hy hb=> ?_⟩
  ·simp at hy hb ht
   subst hy;subst hb;subst ht
   exact hr1.mono hl2.m.prot hl2.same hl2.lock
  ·cases j with
   | zero =>
    simp at hy hb
    subst hy;subst hb
    rcases hj with hj | hj
    ·exact (ho1 hj).mono hl2.m.prot fun _ _ _=>rfl
    ·omega
   | succ j =>
    simp at hy hb
    exact hr2 j y b (.inl rfl) hy hb
 | [],_::_,_,_,_,_,_,_,_,_,hk=>by simp [resAll] at hk
 | _::_,[],_,_,_,_,_,_,_,_,hk=>by simp [resAll] at hk
theorem sim_outBlks {α:Type} {bk:Nat→Nat} {tys:List Nat}:∀ {blks:List (Nat×List AV)} {st:Nat→Blk} {L:List Nat} {p:Prot},SInv B M w0 p0 w p g st→(∀ j cs,(j,cs)∈blks→g j = .pointer (some ⟨bk j,0,none⟩))→∀ {k:Blocks→Option α} {r:α},
  outBlks E blks tys st L k=some r→∃ bs st1 p1,k bs=some r∧SInv B M w0 p0 w p1 g st1∧Later w p g st L p1 st1 L∧BlksOut w p1 bk blks bs
 | [],st,L,p,h,hg,k,r,hk=>by
  simp only [outBlks] at hk
  exact ⟨[],st,p,hk,h,Later.refl,rfl,fun i j cs cs' hi=>by simp at hi⟩
 | (b,cs0)::blks,st,L,p,h,hg,k,r,hk=>by
  simp only [outBlks] at hk
  split at hk
  ·rename_i cs e _ _ _ _ _ hst _
   obtain ⟨ei,hei,hk1⟩:=bind_inv hk
   have hb:=h.blk b
   rw [hst] at hb
   obtain ⟨β0,c,e',h1,h2,h3,h4,h5⟩:=hb
   have hbk:bk b=β0:=by
    have:=hg b cs0 (by simp)
    rw [this] at h1;cases h1;rfl
   obtain ⟨l,st1,p1,hk2,hs1,hl1,hc1⟩:=outCs_later (k:=fun l st1=>outBlks E blks tys st1 L fun bs=>k (l::bs)) h h4 hk1
   obtain ⟨bs,st2,p2,hk3,hs2,hl2,hbo⟩:=sim_outBlks hs1 (fun j cs hm=>hg j cs (by simp [hm])) hk2
   refine ⟨_,st2,p2,hk3,hs2,hl1.trans hl2,by simp [hbo.len],fun i j cs1 cs2 hi hj=> ?_⟩
   cases i with
   | zero =>
    simp at hi hj
    obtain ⟨rfl,rfl⟩:=hi
    subst hj
    rw [hbk]
    exact ⟨c,e',h3,hc1.imp fun _ _ hr=>hr.mono hl2.m.prot fun _ _ _=>rfl⟩
   | succ i =>
    simp at hi hj
    exact hbo.each i j cs1 cs2 hi hj
  ·cases hk
def oneOrMore:List Value→Value
 | [x]=>x
 | xs => .tuple xs.toArray
theorem run_results {fn:Func} {tmps:Array Value} {xs:List Value} (h:(fn.results.toList.mapM (resultOf tmps)).run P w = .ok xs w):(results fn tmps).run P w = .ok (oneOrMore xs) w:=by
 have e:results fn tmps=(do let vs ← fn.results.mapM (resultOf tmps);pure (if h:vs.size=1 then vs[0] else .tuple vs)):=by
  unfold results
  congr 1
 rw [e,Array.mapM_eq_mapM_toList]
 cases xs with
 | nil=>simp [h,oneOrMore]
 | cons x r =>
  cases r with
  | nil=>simp [h,oneOrMore]
  | cons y r=>simp [h,oneOrMore]
end
end Go.Abs
/- Functions, whole; programs. -/
namespace Go.Abs
set_option linter.unusedVariables false
section
variable {P:Program} {E:Env} {rts:Nat→Option (List Nat)}
theorem find_entry:∀ {blks:List (Nat×List AV)} {k:Nat} {x:Nat×List AV},blks.find? (fun x=>Nat.beq x.1 k)=some x→x∈blks∧x.1=k:=by
 intro blks k x h
 exact ⟨List.mem_of_find?_eq_some h,Zz (by have:=List.find?_some h;simpa using this)⟩
theorem entry_used {args:List AV} {blks:List (Nat×List AV)} {j:Nat} (hm:j∈blks.map (·.1)):used (entry 0 args blks).st j:=by
 obtain ⟨⟨j',cs⟩,hm',rfl⟩:=List.mem_map.1 hm
 unfold used
 simp only [entry]
 cases hfd:blks.find? (fun x=>Nat.beq x.1 j') with
 | none =>
  have:=List.find?_eq_none.1 hfd (j',cs) hm'
  simp at this
 | some y=>simp
theorem entry_ok {n:Nat} {w:World} {p:Prot} {bk:Nat→Nat} {vals:Array Value} {args:List AV} {blks:List (Nat×List AV)} (hn:NewP w p) (hG:GlobOK E w p) (hsz:vals.size=args.length) (hle:args.length≤n)
  (ha:∀ (i:Nat) (v:Value) (a:AV),vals[i]? = some v→args[i]? = some a→ArgRep w p bk blks v a) (hb:BlksIn w p bk blks) :
  Inv n w.heap.size (fun β=>∃ j cs,(j,cs)∈blks∧bk j=β) w p w p (fun k => .pointer (some ⟨bk k,0,none⟩)) { tmps:=vals++Array.replicate (n-vals.size) undef,defers:=[] } (entry 0 args blks):=by
 have hst:∀ k,(entry 0 args blks).st k = .free∨∃ cs,(k,cs)∈blks∧(entry 0 args blks).st k = .cells cs:=by
  intro k
  simp only [entry]
  cases hf:blks.find? (fun x=>Nat.beq x.1 k) with
  | none=>exact .inl rfl
  | some x =>
   obtain ⟨h1,h2⟩:=find_entry hf
   obtain ⟨j,cs⟩:=x
   simp only at h2
   subst h2
   exact .inr ⟨cs,h1,rfl⟩
 refine ⟨⟨rfl,rfl,rfl,Nat.le_refl _,fun _ _ _=>rfl,fun k=> ?_,fun k k' β hne hl hl' hv hv'=> ?_,hn,fun _ _=>rfl⟩,rfl,by simp [hsz];omega,fun t=> ?_⟩
 ·rcases hst k with h | ⟨cs,hm,h⟩
  ·rw [h];trivial
  ·rw [h]
   obtain ⟨c,e,h1,h2,h3⟩:=hb.each k cs hm
   exact ⟨bk k,c,e,rfl,.inl ⟨k,cs,hm,rfl⟩,h1,h2.imp fun _ _ => .imm,h3⟩
 ·rcases hst k with h | ⟨cs,hm,h⟩
  ·rw [h] at hl;exact hl
  ·rcases hst k' with h' | ⟨cs',hm',h'⟩
   ·rw [h'] at hl';exact hl'
   ·simp only [vblk,Option.some.injEq] at hv hv'
    exact hne (hb.inj k k' cs cs' hm hm' (hv.trans hv'.symm))
 ·simp only [entry]
  cases hat:args[t]? with
  | none=>exact .inl rfl
  | some x =>
   have hlt:t<vals.size:=by rw [hsz];exact (List.getElem?_eq_some_iff.1 hat).1
   have hv:vals[t]? = some vals[t]:=by simp [hlt]
   have hget:(vals++Array.replicate (n-vals.size) undef).getD t undef=vals[t]:=by
    rw [Array.getD_eq_getD_getElem?,Array.getElem?_append_left hlt,hv];rfl
   simp only [Option.getD_some]
   rw [hget]
   rcases ha t _ x hv hat with h | ⟨j,cs,hm,rfl,h⟩
   ·exact h.v
   ·rw [h]
    refine RepC.v (.ptr ?_ rfl)
    show used (entry 0 args blks).st j
    exact entry_used (List.mem_map.2 ⟨_,hm,rfl⟩)
theorem sim_runFn (hty : ∀ t i, E.ty t = some i → mkTI P t = some i) (hC : ∀ H, CallOK P { E with hand := H } rts) (hD : ∀ H, DrawOK P { E with hand := H } rts) {f : FuncId} {fn : Func} (hf : P.funcs[f]? = some fn) (hname : fn.name ≠ "runtime.NumGoroutine") {own : Bool} {args : List AV} {blks : List (Nat × List AV)} {r : AV} {bs : Blocks}
  (hk:runFn E rts own fn args blks=some (r,bs)) {w:World} {p:Prot} {vals:Array Value} {bk:Nat→Nat} (hn:NewP w p) (hG:GlobOK E w p) (hsz:vals.size=args.length)
  (ha:∀ (i:Nat) (v:Value) (a:AV),vals[i]? = some v→args[i]? = some a→ArgRep w p bk blks v a) (hb:BlksIn w p bk blks) :
  CallsX P f vals w fun v w'=>∃ p',Kept (fun β=>∃ j cs,(j,cs)∈blks∧bk j=β) w p w' p'∧ResRep E w.heap.size w' p' fn.resultTypes.toList v r∧BlksOut w' p' bk blks bs:=by
 unfold runFn runFnH at hk
 split at hk
 ·cases hk
 ·rename_i c hbody
  obtain ⟨hle,hk1⟩:=chk_inv hk
  have hle':args.length≤fn.ntmps:=Nat.le_of_ble_eq_true hle
  refine .inl ⟨?_,?_⟩
  ·simp [callFunc,hf,hname,hbody]
  ·refine calls_of_wp hf hbody (sim_exec (E:={ E with hand:=blks.map (·.1) }) (g0:=fun k => .pointer (some ⟨bk k,0,none⟩)) hty (hC _) (hD _) c ⟨p,_,entry_ok hn hG hsz hle' ha hb,hG,fun k hk=>⟨entry_used hk,rfl⟩⟩ hk1 _ fun e fr hk2 a' w' hok=> ?_)
   obtain ⟨p1,g1,hi,hG1,hH1⟩:=hok
   have hgk:(∀ j cs,(j,cs)∈blks→g1 j = .pointer (some ⟨bk j,0,none⟩)):=fun j cs hm=>(hH1 j (List.mem_map.2 ⟨_,hm,rfl⟩)).2
   have key:(resAll E fr.slots fn.results.toList fn.resultTypes.toList fr.st [] own fun vs st L=>outBlks E blks fn.params.toList st L fun bs=>match vs with | [v]=>some (v,bs) | vs=>some (.tup vs,bs))=some (r,bs) →
     a'.defers=[]∧∃ v,(results fn a'.tmps).run P w' = .ok v w'∧∃ v',Ending.returned v = .returned v'∧∃ p',Kept (fun β=>∃ j cs,(j,cs)∈blks∧bk j=β) w p w' p'∧ResRep E w.heap.size w' p' fn.resultTypes.toList v' r∧BlksOut w' p' bk blks bs:=by
    intro hk3
    obtain ⟨xs,as,st1,L1,p2,h1,hk4,hs1,hl1,hxl,hal,hr0,hrj⟩:=sim_resAll hty hi.s hi.slots hk3
    obtain ⟨bs',st2,p3,hk5,hs2,hl2,hbo⟩:=sim_outBlks (bk:=bk) hs1 hgk hk4
    have hkept:Kept (fun β=>∃ j cs,(j,cs)∈blks∧bk j=β) w p w' p3:=⟨hs2.os,hs2.tape,hs2.output,hs2.size,hs2.old,hs2.oldp,hs2.newp⟩
    have hr0':∀ x a ty,xs[0]? = some x→as[0]? = some a→fn.resultTypes.toList[0]? = some ty→Res1 E w.heap.size w' p3 ty x a:=fun x a ty hx ha ht=>((hr0 x a ty hx ha ht).mono hl2.m.prot hl2.same hl2.lock).res1 hs2
    have hrj':∀ (j:Nat) x a,0<j→xs[j]? = some x→as[j]? = some a→RepO w' p3 x a:=fun j x a hj hx ha=>(hrj j x a (.inr hj) hx ha).mono hl2.m.prot fun _ _ _=>rfl
    refine ⟨hi.defers,_,run_results h1,_,rfl,p3,hkept,?_,?_⟩
    ·unfold ResRep
     split
     ·rename_i ty hrt
      rw [hrt] at hxl hal hr0'
      obtain ⟨x,rfl⟩:=List.length_eq_one_iff.1 hxl
      obtain ⟨y,rfl⟩:=List.length_eq_one_iff.1 hal
      cases hk5
      exact hr0' x _ ty rfl rfl rfl
     ·rename_i hne
      have hxs:∀ x,xs≠[x]:=fun x e=>by
       subst e
       obtain ⟨ty,hty1⟩:=List.length_eq_one_iff.1 hxl.symm
       exact hne ty hty1
      have has:∀ x,as≠[x]:=fun x e=>by
       subst e
       obtain ⟨ty,hty1⟩:=List.length_eq_one_iff.1 hal.symm
       exact hne ty hty1
      have e1:oneOrMore xs = .tuple xs.toArray:=by
       unfold oneOrMore
       split
       ·rename_i x;exact absurd rfl (hxs x)
       ·rfl
      have e2:(match as with | [v]=>some (v,bs') | vs=>some (AV.tup vs,bs'))=some (.tup as,bs'):=by
       split
       ·rename_i x;exact absurd rfl (has x)
       ·rfl
      rw [e2] at hk5
      cases hk5
      rw [e1]
      exact ⟨xs.toArray,as,rfl,rfl,by simpa using hxl,hal,fun x a ty hx ha ht=>hr0' x a ty (by simpa using hx) ha ht,fun j x a hj hx ha=>hrj' j x a hj (by simpa using hx) ha⟩
    ·have:bs'=bs:=by
      split at hk5<;>(cases hk5;rfl)
     rw [← this];exact hbo
   cases e with
   | normal=>exact key hk2
   | ret=>exact key hk2
   | exit j=>cases hk2
end
end Go.Abs
