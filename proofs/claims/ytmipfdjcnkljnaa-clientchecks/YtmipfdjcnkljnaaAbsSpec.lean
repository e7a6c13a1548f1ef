/- Functions by what they compute: a table of Lean functions, each shown of its Go function by way of those of lower rank. -/
import Derived.Test.YtmipfdjcnkljnaaAbsInl
namespace Go.Abs
set_option linter.unusedVariables false
abbrev Spec:=List AV→List (Nat×List AV)→Option (AV×Blocks)
def denil:List CT→List AV→List AV
 | c::cs,a::l=>(match c,a with
  | .bsl,.nils => .bs []
  | .sl z,.nils => .sl z []
  | _,a=>a)::denil cs l
 | _,l=>l
def callOf (T:Nat→Option (Nat×List CT×Spec)) (k:Nat):CallT:=fun f as blks=>match T f with
 | some x=>cond (Nat.blt x.1 k) (x.2.2 (denil x.2.1 as) blks) none
 | none=>none
theorem denil_len:∀ (cs:List CT) (l:List AV),(denil cs l).length=l.length
 | [],l=>by simp [denil]
 | _::_,[]=>by simp [denil]
 | c::cs,a::l=>by simp [denil,denil_len cs l]
theorem denil_rep {w:World} {p:Prot} {bk:Nat→Nat} {blks:List (Nat×List AV)}:∀ (cs:List CT) (l:List AV) (i:Nat) (v:Value),(∀ a,l[i]? = some a→ArgRep w p bk blks v a)→∀ a,(denil cs l)[i]? = some a→ArgRep w p bk blks v a
 | [],l,i,v,h,a,ha=>h a (by simpa [denil] using ha)
 | _::_,[],i,v,h,a,ha=>by simp [denil] at ha
 | c::cs,b::l,i,v,h,a,ha=>by
  cases i with
  | succ i=>exact denil_rep cs l i v (fun a ha=>h a (by simpa using ha)) a (by simpa [denil] using ha)
  | zero =>
   simp only [denil,List.getElem?_cons_zero,Option.some.injEq] at ha
   have hb:=h b rfl
   split at ha
   ·subst ha
    rcases hb with (hb | ⟨_,_,_,hb,_⟩) | ⟨_,_,_,hb,_⟩
    ·cases hb;exact .inl (.inl (.bs 0 0 rfl (Nat.le_refl _) (.inl rfl) fun i b hb=>by simp at hb))
    ·cases hb
    ·cases hb
   ·subst ha
    rcases hb with (hb | ⟨_,_,_,hb,_⟩) | ⟨_,_,_,hb,_⟩
    ·cases hb;exact .inl (.inl (.sl 0 0 (fun _=>undef) rfl (Nat.le_refl _) (fun e he=>by cases he) (.inl rfl) (fun j c hj=>by simp at hj) fun j c hj=>by simp at hj))
    ·cases hb
    ·cases hb
   ·subst ha;exact hb
structure Cfg2 where
 ty:Nat→Option TI
 keep:Nat→Nat→List Keep
 own:Nat→Bool
 glob:Nat→Option (List AV)
 rts:Nat→Option (List Nat)
 tab:Nat→Option (Nat×List CT×Spec)
 inl:Nat→Option Func
noncomputable def inlOf (G:Cfg2) (k:Nat):Nat→Nat→Option InlR
 | 0,_=>none
 | m+1,f=>match G.inl f with
  | some fn=>some ⟨runI ⟨G.ty,G.keep f,G.own,callOf G.tab k,G.glob,[],0,inlOf G k m⟩ G.rts fn,fun kb args=>loc_runI _ fn kb args⟩
  | none=>none
noncomputable def Cfg2.env (G:Cfg2) (f k:Nat):Env:=⟨G.ty,G.keep f,G.own,callOf G.tab k,G.glob,[],0,inlOf G k 12⟩
def Given (P:Program) (G:Cfg2) (f:Nat) (s:Spec):Prop :=
 ∀ (call:CallT) (as:List AV) (blks:List (Nat×List AV)) (r:AV) (bs:Blocks) (rt:List Nat),s as blks=some (r,bs)→G.rts f=some rt→∀ (w:World) (p:Prot) (vals:Array Value) (bk:Nat→Nat),NewP w p→GlobOK ⟨G.ty,fun _=>[],G.own,call,G.glob,[],0,fun _=>none⟩ w p→vals.size=as.length →
  (∀ (i:Nat) (v:Value) (a:AV),vals[i]? = some v→as[i]? = some a→ArgRep w p bk blks v a)→BlksIn w p bk blks →
  CallsX P f vals w fun v w'=>∃ p',Kept (fun β=>∃ j cs,(j,cs)∈blks∧bk j=β) w p w' p'∧ResRep ⟨G.ty,fun _=>[],G.own,call,G.glob,[],0,fun _=>none⟩ w.heap.size w' p' rt v r∧BlksOut w' p' bk blks bs
def Walked (P:Program) (G:Cfg2) (f k:Nat) (s:Spec):Prop :=
 ∃ fn, P.funcs[f]? = some fn ∧ fn.name ≠ "runtime.NumGoroutine" ∧ G.rts f = some fn.resultTypes.toList ∧
  ∀ as blks r,s as blks=some r→runFn (G.env f k) G.rts (G.own f) fn as blks=some r
structure TabOK (P:Program) (G:Cfg2):Prop where
 mixed:P.follows .mixedOrders=true
 ty:∀ t i,G.ty t=some i→mkTI P t=some i
 each:∀ f k ct s,G.tab f=some (k,ct,s)→Given P G f s∨Walked P G f k s
 inl : ∀ f fn, G.inl f = some fn → P.funcs[f]? = some fn ∧ fn.name ≠ "runtime.NumGoroutine"
theorem tab_ok {P:Program} {G:Cfg2} (hP:TabOK P G):∀ (k m:Nat) (keep:Nat→List Keep) (hand:List Nat) (kb:Nat),CallOK P ⟨G.ty,keep,G.own,callOf G.tab k,G.glob,hand,kb,inlOf G k m⟩ G.rts:=by
 intro k
 induction k using Nat.strongRecOn with
 | _ k ih =>
  have hcall:∀ f as blks r bs rt,callOf G.tab k f as blks=some (r,bs)→G.rts f=some rt→∀ (w:World) (p:Prot) (vals:Array Value) (bk:Nat→Nat),NewP w p→GlobOK ⟨G.ty,fun _=>[],G.own,callOf G.tab k,G.glob,[],0,fun _=>none⟩ w p→vals.size=as.length →
    (∀ (i:Nat) (v:Value) (a:AV),vals[i]? = some v→as[i]? = some a→ArgRep w p bk blks v a)→BlksIn w p bk blks →
    CallsX P f vals w fun v w'=>∃ p',Kept (fun β=>∃ j cs,(j,cs)∈blks∧bk j=β) w p w' p'∧ResRep ⟨G.ty,fun _=>[],G.own,callOf G.tab k,G.glob,[],0,fun _=>none⟩ w.heap.size w' p' rt v r∧BlksOut w' p' bk blks bs:=by
   intro f as blks r bs rt hc hrt w p vals bk hn hG hsz ha hb
   simp only [callOf] at hc
   split at hc
   ·rename_i x hx
    obtain ⟨rk,ct,s⟩:=x
    cases hlt:Nat.blt rk k with
    | false=>rw [hlt] at hc;cases hc
    | true =>
     rw [hlt] at hc
     have hlt':rk<k:=by simpa using hlt
     rcases hP.each f rk ct s hx with hg | ⟨fn,hf,hname,hrts,hrun⟩
     ·exact hg (callOf G.tab k) (denil ct as) blks r bs rt hc hrt w p vals bk hn hG (by rw [denil_len];exact hsz) (fun i v a hv=>denil_rep ct as i v (fun a ha'=>ha i v a hv ha') a) hb
     ·rw [hrt] at hrts
      cases hrts
      have hd:∀ H,DrawOK P { G.env f rk with hand:=H } G.rts:=fun H=>draw_ok hP.mixed hP.ty (ih rk hlt' _ _ _ _)
      exact sim_runFn (E:=G.env f rk) hP.ty (fun H=>ih rk hlt' _ _ H _) hd hf hname (hrun _ blks _ hc) hn hG (by rw [denil_len];exact hsz) (fun i v a hv=>denil_rep ct as i v (fun a ha'=>ha i v a hv ha') a) hb
   ·cases hc
  intro m
  induction m with
  | zero=>exact fun keep hand kb=>⟨hcall,fun f run hr=>by cases hr⟩
  | succ m ihm =>
   refine fun keep hand kb=>⟨hcall,fun f run hr {B M w0 p0 w p g st} hs hG {kb2 args xs} hx {v st' fp} hk=> ?_⟩
   simp only [inlOf] at hr
   split at hr
   ·rename_i fn hfn
    cases hr
    obtain ⟨h1,h2⟩:=hP.inl f fn hfn
    exact sim_runI (E:=⟨G.ty,G.keep f,G.own,callOf G.tab k,G.glob,[],0,inlOf G k m⟩) hP.ty (fun kb=>ihm _ _ kb) (fun kb=>draw_ok hP.mixed hP.ty (ihm _ _ kb)) h1 h2 hs hG hx hk
   ·cases hr
end Go.Abs
