/- Code. -/
import Derived.Test.YtiplnpablmohiaaGreatAbsLoop
namespace Go.Abs
set_option linter.unusedVariables false
def Ex.toExit:Ex→Exit
 | .normal => .normal
 | .ret => .ret
 | .exit j => .exit j
theorem loopM_inv {σ ρ:Type} {step:σ→Option (σ ⊕ ρ)} {s:σ} {r:ρ} (h:loopM step s=some r):∃ m,loopN step m s=some r:=by
 unfold loopM at h
 split at h
 ·rename_i hx
  have:=Classical.choose_spec (Classical.choose_spec hx)
  rw [Option.some.inj h] at this
  exact ⟨_,this⟩
 ·cases h
section
variable {P:Program} {n B:Nat} {M:Nat→Prop} {w0:World} {p0:Prot} {g0:Nat→Value} {E:Env} {rts:Nat→Option (List Nat)}
def DrawOK (P:Program) (E:Env) (rts:Nat→Option (List Nat)):Prop :=
 ∀ {n B:Nat} {M:Nat→Prop} {w0:World} {p0:Prot} {S:World→Prot→(Nat→Value)→(Nat→Prop)→Prop} {α:Type} {ops:Array Oper} {id:Nat} {fr:Fr} {a:Act} {w:World} {k:Fr→Option α} {r:α},Stable S→OkS E n B M w0 p0 S a w fr →
  (execOps E rts n ops.toList ops.toList fr fun fr' fps=>bif indep ops.toList fps then k fr' else none)=some r →
  ∀ (Q:Exit→Act→World→Prop),(∀ fr',k fr'=some r→∀ a' w',OkS E n B M w0 p0 S a' w' fr'→Q .normal a' w')→(Code.region id ops true).wp P Q a w
def KOk (E:Env) (n B:Nat) (M:Nat→Prop) (w0:World) (p0:Prot) (g0:Nat→Value) (hs:List Keep) (l:List AV) (a:Act) (w:World):Prop :=
 ∀ {β:Type} {k2:Fr→Option β} {R':β},restore E hs l (baseFr E) k2=some R'→∃ fr,k2 fr=some R'∧Ok E n B M w0 p0 g0 a w fr
theorem collect_kok {α:Type} {hs:List Keep} {fr:Fr} {a:Act} {w:World} (h:Ok E n B M w0 p0 g0 a w fr) {kk:List AV→Option α} {R:α} (hk:collect E fr hs kk=some R):∃ l,kk l=some R∧KOk E n B M w0 p0 g0 hs l a w:=by
 obtain ⟨p,g,hi,hG,hH⟩:=h
 obtain ⟨l,hl,hr⟩:=collect_ok (H:=E.hand) hi.s hi.slots hk
 refine ⟨l,hl,fun {β k2 R'} hres=> ?_⟩
 have hb:∀ k,((baseFr E).st k = .free∧k ∉ E.hand)∨((baseFr E).st k = .dead∧k∈E.hand):=fun k=>by
  simp only [baseFr]
  cases hc:E.hand.contains k with
  | true=>exact .inr ⟨rfl,by simpa using hc⟩
  | false=>exact .inl ⟨rfl,by simpa using hc⟩
 have h0:CR E.hand B M w0 p0 w p g fr.st [] a (baseFr E) g (fun _=>none):=by
  refine ⟨hi.s,fun k hl=> ?_,fun k j _ hk=>(by cases hk),fun k1 k2 j _ _ hk=>(by cases hk),fun t => .inl rfl,fun k hk=> ?_,fun k hk=>⟨?_,rfl⟩,fun k hd=> ?_⟩
  ·rcases hb k with ⟨h,_⟩ | ⟨h,_⟩<;>(rw [h] at hl;exact hl.elim)
  ·rcases hb k with ⟨h,_⟩ | ⟨h,_⟩<;>(rw [h] at hk;cases hk)
  ·rcases hb k with ⟨_,h⟩ | ⟨h,_⟩
   ·exact absurd hk h
   ·unfold used;rw [h];simp
  ·rcases hb k with ⟨h,_⟩ | ⟨_,h⟩
   ·rw [h] at hd;cases hd
   ·exact h
 obtain ⟨fr2,p2,st2,L2,g2,φ2,r1,r2,r3⟩:=hr h0 hres
 exact ⟨fr2,r1,p2,g2,r2.inv hi.defers hi.size,hG.mono r3 fun _ _ _=>rfl,fun k hk=>⟨(r2.hand k hk).1,(r2.hand k hk).2.trans (hH k hk).2⟩⟩
theorem sim_exec (hty:∀ t i,E.ty t=some i→mkTI P t=some i) (hC:CallOK P E rts) (hD:DrawOK P E rts) (c:Code):∀ {α:Type} {fr:Fr} {a:Act} {w:World} (_:Ok E n B M w0 p0 g0 a w fr) {k:Ex→Fr→Option α} {r:α},exec E rts n c α fr k=some r →
  ∀ (Q:Exit→Act→World→Prop),(∀ e fr',k e fr'=some r→∀ a' w',Ok E n B M w0 p0 g0 a' w' fr'→Q e.toExit a' w')→c.wp P Q a w:=by
 induction c with
 | skip=>intro α fr a w h k r hk Q hQ;exact wp_skip (hQ .normal fr hk a w h)
 | label l=>intro α fr a w h k r hk Q hQ;exact wp_label (hQ .normal fr hk a w h)
 | region id ops draw =>
  intro α fr a w h k r hk Q hQ
  have go:∀ {β:Type} {k2:Fr→Option β} {r2:β},(execOps E rts n ops.toList ops.toList fr fun fr' fps=>chk (!draw||indep ops.toList fps) (k2 fr'))=some r2 →
    (∀ fr',k2 fr'=some r2→∀ a' w',Ok E n B M w0 p0 g0 a' w' fr'→Q .normal a' w')→(Code.region id ops draw).wp P Q a w:=by
   intro β k2 r2 hk hQ2
   cases draw with
   | false =>
    simp only [Bool.not_false,Bool.true_or,chk,cond_true] at hk
    exact wp_region (sim_execOps handS_stable hty hC h (range_map ops) hk Q fun fr' fps hk2 a' w' hi=>hQ2 fr' hk2 a' w' hi)
   | true =>
    simp only [Bool.not_true,Bool.false_or,chk] at hk
    exact hD handS_stable h hk Q fun fr' hk2 a' w' hi=>hQ2 fr' hk2 a' w' hi
  simp only [exec] at hk
  split at hk
  ·exact go hk fun fr' hk2 a' w' hi=>hQ .normal fr' hk2 a' w' hi
  ·obtain ⟨l,hl,hk2⟩:=bind_inv hk
   refine go hl fun fr' hk3 a' w' hi=> ?_
   obtain ⟨l',hl',hK⟩:=collect_kok hi hk3
   cases hl'
   obtain ⟨fr2,hk5,hok⟩:=hK hk2
   exact hQ .normal fr2 hk5 a' w' hok
 | seq x y ihx ihy =>
  intro α fr a w h k r hk Q hQ
  simp only [exec] at hk
  refine wp_seq (ihx h hk _ fun e fr' hk2 a' w' hi=> ?_)
  cases e with
  | normal=>exact ihy hi hk2 Q hQ
  | ret=>exact hQ .ret fr' hk2 a' w' hi
  | exit j=>exact hQ (.exit j) fr' hk2 a' w' hi
 | cond c x y ihx ihy =>
  intro α fr a w h k r hk Q hQ
  have go:∀ {β:Type} {k2:Ex→Fr→Option β} {r2:β},((evalO E fr c).bind fun v=>v.onBool fun t=>sel t (exec E rts n x β fr k2) (exec E rts n y β fr k2))=some r2 →
    (∀ e fr',k2 e fr'=some r2→∀ a' w',Ok E n B M w0 p0 g0 a' w' fr'→Q e.toExit a' w')→(Code.cond c x y).wp P Q a w:=by
   intro β k2 r2 hk hQ2
   obtain ⟨v,hv,hk1⟩:=bind_inv hk
   obtain ⟨t,rfl,hk2⟩:=onBool_inv hk1
   obtain ⟨p,g,hi,hG,hH⟩:=h
   have hc:=(evalO_rep hG hi.slots hv).bool
   have h':Ok E n B M w0 p0 g0 a w fr:=⟨p,g,hi,hG,hH⟩
   cases t with
   | true=>exact wp_cond_true hc (ihx h' hk2 Q hQ2)
   | false=>exact wp_cond_false hc (ihy h' hk2 Q hQ2)
  simp only [exec] at hk
  split at hk
  ·exact go hk hQ
  ·obtain ⟨l,hl,hk2⟩:=bind_inv hk
   refine go hl fun e fr' hk3 a' w' hi=> ?_
   cases e with
   | normal =>
    obtain ⟨l',hl',hK⟩:=collect_kok hi (show collect E fr' _ some=some l from hk3)
    cases hl'
    obtain ⟨fr2,hk5,hok⟩:=hK hk2
    exact hQ .normal fr2 hk5 a' w' hok
   | ret=>cases hk3
   | exit j=>cases hk3
 | block id x ih =>
  intro α fr a w h k r hk Q hQ
  simp only [exec] at hk
  refine wp_block (ih h hk _ fun e fr' hk2 a' w' hi=> ?_)
  cases e with
  | normal=>exact hQ .normal fr' hk2 a' w' hi
  | ret=>exact hQ .ret fr' hk2 a' w' hi
  | exit j =>
   simp only [Ex.blockK] at hk2
   simp only [Ex.toExit,Exit.inBlock]
   by_cases hj:j=id
   ·subst hj
    have:Nat.beq j j=true:=by simp
    rw [this] at hk2
    rw [if_pos rfl]
    exact hQ .normal fr' hk2 a' w' hi
   ·have:Nat.beq j id=false:=by
     cases hb:Nat.beq j id
     ·rfl
     ·exact absurd (Nat.eq_of_beq_eq_true hb) hj
    rw [this] at hk2
    rw [if_neg hj]
    exact hQ (.exit j) fr' hk2 a' w' hi
 | loop x ih =>
  intro α fr a w h k r hk Q hQ
  simp only [exec] at hk
  obtain ⟨l0,hk1,hK0⟩:=collect_kok h hk
  obtain ⟨rr,hl,hk2⟩:=bind_inv hk1
  obtain ⟨m,hm⟩:=loopM_inv hl
  refine wp_loop_ghost (fun m a w=>∃ l,KOk E n B M w0 p0 g0 (E.keep (firstRegion x)) l a w∧loopN (fun st=>restore E (E.keep (firstRegion x)) st (baseFr E) fun fr0=>exec E rts n x (List AV ⊕ (Ex×List AV)) fr0 fun e fr' =>
     collect E fr' (E.keep (firstRegion x)) fun st'=>some (e.loopK st')) m l=some rr) m ⟨l0,hK0,hm⟩ ?_
  rintro m' a' w' ⟨l,hK,hloop⟩
  cases m' with
  | zero=>cases hloop
  | succ m' =>
   simp only [loopN] at hloop
   generalize hstep:(restore E (E.keep (firstRegion x)) l (baseFr E) fun fr0=>exec E rts n x (List AV ⊕ (Ex×List AV)) fr0 fun e fr'=>collect E fr' (E.keep (firstRegion x)) fun st'=>some (e.loopK st'))=res at hloop
   cases res with
   | none=>cases hloop
   | some res =>
    obtain ⟨fr0,hex,hok⟩:=hK hstep
    refine ih hok hex _ fun e fr' hk3 a2 w2 hi=> ?_
    obtain ⟨l2,hk4,hK2⟩:=collect_kok hi hk3
    cases hk4
    cases e with
    | normal=>exact ⟨m',Nat.lt_succ_self _,l2,hK2,hloop⟩
    | ret =>
     simp only [Ex.loopK] at hloop
     cases hloop
     obtain ⟨fr2,hk5,hok2⟩:=hK2 hk2
     exact hQ .ret fr2 (Ex.out_inv hk5) a2 w2 hok2
    | exit j =>
     simp only [Ex.loopK] at hloop
     cases hloop
     obtain ⟨fr2,hk5,hok2⟩:=hK2 hk2
     exact hQ (.exit j) fr2 (Ex.out_inv hk5) a2 w2 hok2
 | exit id=>intro α fr a w h k r hk Q hQ;exact wp_exit (hQ (.exit id) fr hk a w h)
 | ret=>intro α fr a w h k r hk Q hQ;exact wp_ret (hQ .ret fr hk a w h)
 | _=>intro α fr a w h k r hk Q hQ;simp [exec] at hk
end
end Go.Abs
