/- What is left of bodies: rules to read it. -/
import Derived.Test.YtmipfdjcnkljnaaAbsSpec
namespace Go.Abs
set_option linter.unusedVariables false
theorem loopN_add {σ ρ:Type} {step:σ→Option (σ ⊕ ρ)}:∀ {n m:Nat} {s:σ} {r:ρ},loopN step n s=some r→loopN step (n+m) s=some r
 | 0,m,s,r,h=>by cases h
 | n+1,m,s,r,h=>by
  rw [Nat.add_right_comm]
  simp only [loopN] at h ⊢
  split at h
  ·exact loopN_add h
  ·exact h
  ·cases h
theorem loopM_eq {σ ρ:Type} {step:σ→Option (σ ⊕ ρ)} {n:Nat} {s:σ} {r:ρ} (h:loopN step n s=some r):loopM step s=some r:=by
 have hex:∃ n r,loopN step n s=some r:=⟨n,r,h⟩
 unfold loopM
 rw [dif_pos hex]
 have hc:=Classical.choose_spec (Classical.choose_spec hex)
 have h1:=loopN_add (m:=n) hc
 have h2:=loopN_add (m:=Classical.choose hex) h
 rw [Nat.add_comm,h2] at h1
 exact h1.symm
theorem loopM_post {σ ρ:Type} {τ:Type} (step:τ→Option (τ ⊕ ρ)) (enc:σ→τ) (I:σ→Prop) (μ:σ→Nat) (R:ρ→Prop)
  (h:∀ s,I s→(∃ r,step (enc s)=some (.inr r)∧R r)∨∃ s',step (enc s)=some (.inl (enc s'))∧I s'∧μ s'<μ s) (s0:σ) (h0:I s0):∃ r,loopM step (enc s0)=some r∧R r:=by
 have key:∀ (m:Nat) (s:σ),μ s<m→I s→∃ n r,loopN step n (enc s)=some r∧R r:=by
  intro m
  induction m with
  | zero=>intro s h;omega
  | succ m ih =>
   intro s hm hI
   rcases h s hI with ⟨r,h1,h2⟩ | ⟨s',h1,h2,h3⟩
   ·exact ⟨1,r,by simp [loopN,h1],h2⟩
   ·obtain ⟨n,r,h4,h5⟩:=ih s' (by omega) h2
    exact ⟨n+1,r,by simp [loopN,h1,h4],h5⟩
 obtain ⟨n,r,h1,h2⟩:=key _ s0 (Nat.lt_succ_self _) h0
 exact ⟨r,loopM_eq h1,h2⟩
theorem bind_loop {σ ρ τ β:Type} {step:τ→Option (τ ⊕ ρ)} {k:ρ→Option β} {x:β} {t0:τ} (enc:σ→τ) (I:σ→Prop) (μ:σ→Nat) (R:ρ→Prop) (s0:σ) (h0:I s0) (ht:t0=enc s0)
  (h:∀ s,I s→(∃ r,step (enc s)=some (.inr r)∧R r)∨∃ s',step (enc s)=some (.inl (enc s'))∧I s'∧μ s'<μ s) (hk:∀ r,R r→k r=some x):Option.bind (loopM step t0) k=some x:=by
 obtain ⟨r,h1,h2⟩:=loopM_post step enc I μ R h s0 h0
 rw [ht,h1]
 exact hk r h2
theorem loop_unroll {ρ τ β:Type} {step:τ→Option (τ ⊕ ρ)} {k:ρ→Option β} {x:β} {t0:τ} (n:Nat) (r:ρ) (h:loopN step n t0=some r) (hk:k r=some x):Option.bind (loopM step t0) k=some x:=by
 rw [loopM_eq h];exact hk
def Round {σ ρ τ:Type} (enc:σ→τ) (I:σ→Prop) (μ:σ→Nat) (R:ρ→Prop) (s:σ):τ ⊕ ρ→Prop
 | .inr r=>R r
 | .inl t=>∃ s',t=enc s'∧I s'∧μ s'<μ s
theorem loop_rounds {σ ρ τ β:Type} {step:τ→Option (τ ⊕ ρ)} {k:ρ→Option β} {x:β} {t0:τ} (enc:σ→τ) (I:σ→Prop) (μ:σ→Nat) (R:ρ→Prop) (s0:σ) (h0:I s0) (ht:t0=enc s0)
  (h:∀ s,I s→∃ y,step (enc s)=some y∧Round enc I μ R s y) (hk:∀ r,R r→k r=some x):Option.bind (loopM step t0) k=some x :=
 bind_loop enc I μ R s0 h0 ht (fun s hs=>by
  obtain ⟨y,h1,h2⟩:=h s hs
  cases y with
  | inr r=>exact .inl ⟨r,h1,h2⟩
  | inl t=>obtain ⟨s',rfl,h3,h4⟩:=h2;exact .inr ⟨s',h1,h3,h4⟩) hk
theorem loop_ex {σ ρ τ β:Type} {step:τ→Option (τ ⊕ ρ)} {k:ρ→Option β} {Q:β→Prop} {t0:τ} (enc:σ→τ) (I:σ→Prop) (μ:σ→Nat) (R:ρ→Prop) (s0:σ) (h0:I s0) (ht:t0=enc s0)
  (h:∀ s,I s→∃ y,step (enc s)=some y∧Round enc I μ R s y) (hk:∀ r,R r→∃ x,k r=some x∧Q x):∃ x,Option.bind (loopM step t0) k=some x∧Q x:=by
 obtain ⟨r,h1,h2⟩:=loopM_post step enc I μ R (fun s hs=>by
  obtain ⟨y,h1,h2⟩:=h s hs
  cases y with
  | inr r=>exact .inl ⟨r,h1,h2⟩
  | inl t=>obtain ⟨s',rfl,h3,h4⟩:=h2;exact .inr ⟨s',h1,h3,h4⟩) s0 h0
 rw [ht,h1]
 exact hk r h2
section
variable {α β:Type}
theorem onInt_int (k:IntKind) (n:Int) (f:Int→Option α):AV.onInt k (.int k n) f=f n:=by simp [AV.onInt]
theorem onU8_u8 (b:UInt8) (f:UInt8→Option α):AV.onU8 (.u8 b) f=f b:=rfl
theorem onBool_bool (b:Bool) (f:Bool→Option α):AV.onBool (.bool b) f=f b:=rfl
theorem onStr_str (b:List UInt8) (f:List UInt8→Option α):AV.onStr (.str b) f=f b:=rfl
theorem onBs_bs (b:List UInt8) (f:List UInt8→Option α):AV.onBs (.bs b) f=f b:=rfl
theorem onSl_sl (z:Nat) (l:List AV) (f:List AV→Option α):AV.onSl z (.sl z l) f=f l:=by simp [AV.onSl]
theorem onAgg_agg (l:List AV) (f:List AV→Option α):AV.onAgg (.agg l) f=f l:=rfl
theorem onTup_tup (l:List AV) (f:List AV→Option α):AV.onTup (.tup l) f=f l:=rfl
theorem onOwnB_ownB (l:List UInt8) (f:List UInt8→Option α):AV.onOwnB (.ownB l) f=f l:=rfl
theorem onOwnL_ownL (l:List AV) (f:List AV→Option α):AV.onOwnL (.ownL l) f=f l:=rfl
theorem onCons_cons (x:AV) (r:List AV) (f:AV→List AV→Option α):onCons (x::r) f=f x r:=rfl
theorem onNil_nil (f:Option α):onNil [] f=f:=rfl
theorem onNilB_nil (f:Option α):onNilB [] f=f:=rfl
theorem onConsB_cons (x:List AV) (r:Blocks) (f:List AV→Blocks→Option α):onConsB (x::r) f=f x r:=rfl
theorem chk_true (f:Option α):chk true f=f:=rfl
theorem chk_of {b:Bool} (h:b=true) (f:Option α):chk b f=f:=by rw [h];rfl
theorem chk_bind (b:Bool) (x:Option α) (f:α→Option β):Option.bind (chk b x) f=chk b (x.bind f):=by cases b<;>rfl
theorem sel_true (f g:Option α):sel true f g=f:=rfl
theorem sel_false (f g:Option α):sel false f g=g:=rfl
theorem sel_bind (b:Bool) (x y:Option α) (f:α→Option β):Option.bind (sel b x y) f=sel b (x.bind f) (y.bind f):=by cases b<;>rfl
theorem sel_pos {b:Bool} (h:b=true) (f g:Option α):sel b f g=f:=by rw [h];rfl
theorem sel_neg {b:Bool} (h:b=false) (f g:Option α):sel b f g=g:=by rw [h];rfl
theorem some_bind (x:α) (f:α→Option β):Option.bind (some x) f=f x:=rfl
theorem exK_ret (a:Option α) (f:Nat→Option α):exK .ret a f=a:=rfl
theorem exK_exit (j:Nat) (a:Option α) (f:Nat→Option α):exK (.exit j) a f=f j:=rfl
end
theorem wrap_i64 {n:Int} (h1 : -9223372036854775808≤n) (h2:n≤9223372036854775807):IntKind.wrap .i64 n=n:=by
 rw [IntKind.wrap_i64];omega
def catB:List AV→List UInt8
 | []=>[]
 | .bs l::r=>l++catB r
 | _::r=>catB r
def allB:List AV→Bool
 | []=>true
 | .bs _::r=>allB r
 | _::_=>false
end Go.Abs
