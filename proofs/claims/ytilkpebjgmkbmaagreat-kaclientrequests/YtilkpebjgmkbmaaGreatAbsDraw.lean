/- Regions whose order is drawn: whatever the order, they come to the same frame. -/
import Derived.Test.YtilkpebjgmkbmaaGreatAbsLoc6
import Derived.Test.YtilkpebjgmkbmaaGreatAbsCode
namespace Go.Abs
set_option linter.unusedVariables false
section
variable {E : Env} {rts : Nat → Option (List Nat)} {n : Nat} {all : List Oper}
theorem evalO_sl {sl sl2 : Nat → AV} {s : Nat → Blk} {x : Operand} (h : ∀ t, x = .tmp t → sl t = sl2 t) : evalO E ⟨sl, s⟩ x = evalO E ⟨sl2, s⟩ x := by
  cases x with
  | tmp t => simp only [evalO]; rw [h t rfl]
  | _ => rfl
theorem evalAll_sl {sl sl2 : Nat → AV} {s : Nat → Blk} : ∀ {xs : List Operand}, (∀ x ∈ xs, evalO E ⟨sl, s⟩ x = evalO E ⟨sl2, s⟩ x) → evalAll E ⟨sl, s⟩ xs = evalAll E ⟨sl2, s⟩ xs
  | [], _ => rfl
  | x :: r, h => by simp only [evalAll]; rw [h x (by simp), evalAll_sl fun y hy => h y (by simp [hy])]
theorem evalParts_sl {sl sl2 : Nat → AV} {s : Nat → Blk} : ∀ {xs : List (Nat × Operand)}, (∀ x ∈ xs.map (·.2), evalO E ⟨sl, s⟩ x = evalO E ⟨sl2, s⟩ x) → evalParts E ⟨sl, s⟩ xs = evalParts E ⟨sl2, s⟩ xs
  | [], _ => rfl
  | (i, x) :: r, h => by simp only [evalParts]; rw [h x (by simp), evalParts_sl fun y hy => h y (by simp only [List.map_cons, List.mem_cons]; exact .inr hy)]
theorem doOp_sl {α : Type} {sl sl2 : Nat → AV} {s : Nat → Blk} {o : Oper} {k : Ret α} (h : ∀ t ∈ slotsOf o, sl2 t = sl t) : doOp E rts ⟨sl2, s⟩ o k = doOp E rts ⟨sl, s⟩ o k := by
  have he : ∀ x ∈ o.op.operands, evalO E ⟨sl2, s⟩ x = evalO E ⟨sl, s⟩ x := fun x hx => evalO_sl fun t ht => h t (by
    subst ht; exact List.mem_filterMap.2 ⟨.tmp t, by simpa using hx, rfl⟩)
  clear h
  obtain ⟨dst, op, type, pos, after, guard⟩ := o
  cases op <;> simp only [Op.operands] at he <;> simp only [doOp]
  case move x => rw [he x (by simp)]
  case assign x => rw [he x (by simp)]
  case pick c a b => rw [he c (by simp), he a (by simp), he b (by simp)]
  case alloc e => rfl
  case box e x => rw [he x (by simp)]; rfl
  case build t ps => rw [evalParts_sl fun x hx => he x (by simpa using hx)]; rfl
  case buildSlice t len ps => rw [evalParts_sl fun x hx => he x (by simpa using hx)]; rfl
  case makeSlice t l c => rw [he l (by simp), he c (by simp)]; rfl
  case load t a => rw [he a (by simp)]; rfl
  case store t a x => rw [he a (by simp), he x (by simp)]; rfl
  case nilCheck x => rw [he x (by simp)]
  case binOp op t x y z => rw [he x (by simp), he y (by simp)]
  case unOp op t x => rw [he x (by simp)]
  case convert a d x => rw [he x (by simp)]; rfl
  case slice t x lo hi mx =>
    have hlo : lo.map (evalO E ⟨sl2, s⟩) = lo.map (evalO E ⟨sl, s⟩) := by
      cases lo with
      | none => rfl
      | some y => simp only [Option.map_some]; rw [he y (by simp)]
    have hhi : hi.map (evalO E ⟨sl2, s⟩) = hi.map (evalO E ⟨sl, s⟩) := by
      cases hi with
      | none => rfl
      | some y => simp only [Option.map_some]; rw [he y (by simp)]
    have hmx : mx.map (evalO E ⟨sl2, s⟩) = mx.map (evalO E ⟨sl, s⟩) := by
      cases mx with
      | none => rfl
      | some y => simp only [Option.map_some]; rw [he y (by simp)]
    rw [he x (by simp), hlo, hhi, hmx]
    rfl
  case fieldAddr t x f => rw [he x (by simp)]; rfl
  case field t x f => rw [he x (by simp)]
  case indexAddr t x ix => rw [he x (by simp), he ix (by simp)]; rfl
  case index t x ix => rw [he x (by simp), he ix (by simp)]; rfl
  case extract x j => rw [he x (by simp)]
  case call c =>
    have hargs : evalAll E ⟨sl2, s⟩ c.args.toList = evalAll E ⟨sl, s⟩ c.args.toList := evalAll_sl fun x hx => he x (by simp only [Call.operands, Array.mem_append]; right; simpa using hx)
    split
    · rw [hargs]; rfl
    · rw [hargs]; rfl
    · rw [hargs]
    · rw [hargs]
    · rw [hargs]; rfl
    · rename_i s hcal
      rw [hargs, he (.tmp s) (by simp [Call.operands, hcal])]; rfl
    · rfl
structure Eff where
  v : AV
  st : Nat → Blk
  fp : FP
def putS (sl : Nat → AV) (d : Option Nat) (v : AV) : Nat → AV := match d with
  | some t => upd sl t v
  | none => sl
def Eff.on (e : Eff) (o : Oper) (fr : Fr) : Fr := ⟨putS fr.slots o.dst e.v, merge e.fp.wr e.st fr.st⟩
def Agree (all : List Oper) (o : Oper) (fp : FP) (fr fr2 : Fr) : Prop := (∀ t ∈ looks all o, fr2.slots t = fr.slots t) ∧ ∀ x ∈ fp.rd, fr2.st x = fr.st x
variable (E rts n all) in
def Step (o : Oper) (e : Eff) (fr : Fr) : Prop := ∀ fr2, Agree all o e.fp fr fr2 → ∀ (β : Type) (k : Fr → FP → Option β), stepOp E rts n all fr2 o k = k (e.on o fr2) e.fp
theorem Agree.refl {o : Oper} {fp : FP} {fr : Fr} : Agree all o fp fr fr := ⟨fun _ _ => rfl, fun _ _ => rfl⟩
theorem Step.congr {o : Oper} {e : Eff} {fr fr' : Fr} (h : Step E rts n all o e fr) (ha : Agree all o e.fp fr fr') : Step E rts n all o e fr' :=
  fun fr2 h2 β k => h fr2 ⟨fun t ht => (h2.1 t ht).trans (ha.1 t ht), fun x hx => (h2.2 x hx).trans (ha.2 x hx)⟩ β k
theorem putSlot_det {α : Type} {fr : Fr} {d : Option Nat} {v : AV} {st : Nat → Blk} {k : Fr → Option α} {r : α} (h : putSlot fr n d v st k = some r) :
    k ⟨putS fr.slots d v, st⟩ = some r ∧ ∀ (fr2 : Fr) (st2 : Nat → Blk) (β : Type) (k2 : Fr → Option β), putSlot fr2 n d v st2 k2 = k2 ⟨putS fr2.slots d v, st2⟩ := by
  unfold putSlot at h
  cases d with
  | none => exact ⟨h, fun _ _ _ _ => rfl⟩
  | some t =>
    obtain ⟨hb, h1⟩ := bif_inv h
    exact ⟨h1, fun _ _ _ _ => by simp only [putSlot, hb, cond_true, putS]⟩
theorem run_loc {α : Type} {fr : Fr} {o : Oper} {k : Fr → FP → Option α} {r : α} (h : (doOp E rts fr o fun v st fp => putSlot fr n o.dst v st fun fr' => k fr' fp) = some r) :
    ∃ e : Eff, k (e.on o fr) e.fp = some r ∧ ∀ fr2 : Fr, (∀ t ∈ slotsOf o, fr2.slots t = fr.slots t) → (∀ x ∈ e.fp.rd, fr2.st x = fr.st x) → ∀ (β : Type) (k2 : Fr → FP → Option β),
      (doOp E rts fr2 o fun v st fp => putSlot fr2 n o.dst v st fun fr' => k2 fr' fp) = k2 (e.on o fr2) e.fp := by
  obtain ⟨sl, st⟩ := fr
  obtain ⟨v, st', fp, h1, l⟩ := (loc_doOp E sl rts o).go h
  obtain ⟨h2, hd⟩ := putSlot_det h1
  refine ⟨⟨v, st', fp⟩, ?_, fun fr2 hs hx β k2 => ?_⟩
  · have : merge fp.wr st' st = st' := merge_self l.eff
    simp only [Eff.on, this]
    exact h2
  · obtain ⟨sl2, st2⟩ := fr2
    rw [doOp_sl hs]
    have hr := l.run st2 hx β fun v st fp => putSlot ⟨sl2, st2⟩ n o.dst v st fun fr' => k2 fr' fp
    rw [hr, hd]
    rfl
theorem step_loc {α : Type} {fr : Fr} {o : Oper} {k : Fr → FP → Option α} {r : α} (h : stepOp E rts n all fr o k = some r) : ∃ e : Eff, k (e.on o fr) e.fp = some r ∧ Step E rts n all o e fr := by
  unfold stepOp at h
  split at h
  · rename_i hg
    obtain ⟨e, h1, h2⟩ := run_loc h
    refine ⟨e, h1, fun fr2 ha β k2 => ?_⟩
    simp only [stepOp, hg]
    exact h2 fr2 (fun t ht => ha.1 t (List.mem_append.2 (.inl ht))) ha.2 β k2
  · rename_i j want hg
    split at h
    · cases h
    · rename_i g hgs
      have hlook : g ∈ looks all o := by
        simp only [looks, hg, hgs]
        exact List.mem_append.2 (.inr (by simp))
      have skip : ∀ (w : Bool), (putSlot fr n o.dst (.tup []) fr.st fun fr' => k fr' .none) = some r → ∃ e : Eff, k (e.on o fr) e.fp = some r ∧ ∀ (fr2 : Fr) (β : Type) (k2 : Fr → FP → Option β), (putSlot fr2 n o.dst (.tup []) fr2.st fun fr' => k2 fr' .none) = k2 (e.on o fr2) e.fp := by
        intro _ hp
        obtain ⟨h2, hd⟩ := putSlot_det hp
        refine ⟨⟨.tup [], fr.st, .none⟩, ?_, fun fr2 β k2 => ?_⟩
        · simp only [Eff.on, FP.none, merge_nil]; exact h2
        · rw [hd]; simp only [Eff.on, FP.none, merge_nil]
      rcases onGuard_inv h with ⟨b, hb, h1⟩ | ⟨hb, h1⟩
      case inr =>
        obtain ⟨e, h2, h3⟩ := skip true h1
        refine ⟨e, h2, fun fr2 ha β k2 => ?_⟩
        have h4 := (ha.1 g hlook).trans hb
        simp only [stepOp, hg, hgs, h4, AV.onGuard]
        exact h3 fr2 β k2
      have hu : (⟨upd fr.slots g (.bool b), fr.st⟩ : Fr) = fr := by
        obtain ⟨sl, st⟩ := fr
        simp only [Fr.mk.injEq, and_true]
        exact funext (upd_self hb)
      have hrun : ∀ fr2, fr2.slots g = .bool b → (⟨upd fr2.slots g (.bool b), fr2.st⟩ : Fr) = fr2 := fun fr2 h2 => by
        obtain ⟨sl, st⟩ := fr2
        simp only [Fr.mk.injEq, and_true]
        exact funext (upd_self h2)
      cases b <;> cases want <;> simp only [sel, cond_true, cond_false, hu] at h1
      · obtain ⟨e, h2, h3⟩ := run_loc h1
        refine ⟨e, h2, fun fr2 ha β k2 => ?_⟩
        have h4 := (ha.1 g hlook).trans hb
        simp only [stepOp, hg, hgs, h4, AV.onGuard, sel, cond_false, hrun fr2 h4]
        exact h3 fr2 (fun t ht => ha.1 t (List.mem_append.2 (.inl ht))) ha.2 β k2
      · obtain ⟨e, h2, h3⟩ := skip true h1
        refine ⟨e, h2, fun fr2 ha β k2 => ?_⟩
        have h4 := (ha.1 g hlook).trans hb
        simp only [stepOp, hg, hgs, h4, AV.onGuard, sel, cond_false, hrun fr2 h4]
        exact h3 fr2 β k2
      · obtain ⟨e, h2, h3⟩ := skip true h1
        refine ⟨e, h2, fun fr2 ha β k2 => ?_⟩
        have h4 := (ha.1 g hlook).trans hb
        simp only [stepOp, hg, hgs, h4, AV.onGuard, sel, cond_true, hrun fr2 h4]
        exact h3 fr2 β k2
      · obtain ⟨e, h2, h3⟩ := run_loc h1
        refine ⟨e, h2, fun fr2 ha β k2 => ?_⟩
        have h4 := (ha.1 g hlook).trans hb
        simp only [stepOp, hg, hgs, h4, AV.onGuard, sel, cond_true, hrun fr2 h4]
        exact h3 fr2 (fun t ht => ha.1 t (List.mem_append.2 (.inl ht))) ha.2 β k2
theorem putS_at {sl : Nat → AV} {d : Option Nat} {v : AV} {t : Nat} (h : d ≠ some t) : putS sl d v t = sl t := by
  cases d with
  | none => rfl
  | some d => exact upd_ne _ _ (fun e => h (by rw [e]))
theorem putS_comm {sl : Nat → AV} {d d' : Option Nat} {v v' : AV} (h : ∀ t, d = some t → d' ≠ some t) : putS (putS sl d v) d' v' = putS (putS sl d' v') d v := by
  cases d with
  | none => rfl
  | some t =>
    cases d' with
    | none => rfl
    | some t' =>
      have hne : t ≠ t' := fun e => h t rfl (by rw [e])
      funext x
      simp only [putS]
      by_cases e1 : x = t
      · subst e1; rw [upd_ne _ _ hne, upd_same, upd_same]
      · by_cases e2 : x = t'
        · subst e2; rw [upd_same, upd_ne _ _ e1, upd_same]
        · rw [upd_ne _ _ e2, upd_ne _ _ e1, upd_ne _ _ e1, upd_ne _ _ e2]
theorem merge_off {wr : List Nat} {s1 s2 : Nat → Blk} {x : Nat} (h : x ∉ wr) : merge wr s1 s2 x = s2 x := by simp [merge, h]
theorem apart_spec {a b : FP} (h : a.apart b = true) : (∀ x ∈ a.wr, x ∉ b.rd ∧ x ∉ b.wr) ∧ ∀ x ∈ b.wr, x ∉ a.rd := by
  simp only [FP.apart, Bool.and_eq_true, List.all_eq_true, Bool.not_eq_true'] at h
  refine ⟨fun x hx => ?_, fun x hx => ?_⟩
  · have := h.1 x hx
    simpa using this
  · have := h.2 x hx
    simpa using this
theorem apartS_spec {x y : Oper} (h : apartS all x y = true) : (∀ d, x.dst = some d → d ∉ looks all y ∧ y.dst ≠ some d) ∧ ∀ d, y.dst = some d → d ∉ looks all x := by
  simp only [apartS, Bool.and_eq_true] at h
  refine ⟨fun d hd => ?_, fun d hd => ?_⟩
  · have := h.1
    rw [hd] at this
    simpa using this
  · have := h.2
    rw [hd] at this
    simpa using this
theorem swap {x y : Oper} {ex ey : Eff} {fr : Fr} (hs : apartS all x y = true) (hf : ex.fp.apart ey.fp = true) (hx : Step E rts n all x ex fr) (hy : Step E rts n all y ey (ex.on x fr)) :
    Step E rts n all y ey fr ∧ Step E rts n all x ex (ey.on y fr) ∧ ex.on x (ey.on y fr) = ey.on y (ex.on x fr) := by
  obtain ⟨s1, s2⟩ := apartS_spec hs
  obtain ⟨f1, f2⟩ := apart_spec hf
  refine ⟨hy.congr ⟨fun t ht => ?_, fun z hz => ?_⟩, hx.congr ⟨fun t ht => ?_, fun z hz => ?_⟩, ?_⟩
  · exact (putS_at fun e => (s1 t e).1 ht).symm
  · exact (merge_off fun hw => (f1 z hw).1 hz).symm
  · exact putS_at fun e => s2 t e ht
  · exact merge_off fun hw => f2 z hw hz
  · simp only [Eff.on, Fr.mk.injEq]
    refine ⟨(putS_comm fun t ht => (s1 t ht).2).symm, ?_⟩
    funext z
    simp only [merge]
    by_cases h1 : z ∈ ex.fp.wr
    · simp [h1, (f1 z h1).2]
    · simp [h1]
abbrev Done := Nat × Oper × Eff
variable (E rts n all) in
def Runs : List Done → Fr → Fr → Prop
  | [], fr, fr' => fr = fr'
  | t :: L, fr, fr' => Step E rts n all t.2.1 t.2.2 fr ∧ Runs L (t.2.2.on t.2.1 fr) fr'
theorem Runs.front : ∀ {L1 L2 : List Done} {t : Done} {fr fr' : Fr}, Runs E rts n all (L1 ++ t :: L2) fr fr' → (∀ x ∈ L1, apartS all x.2.1 t.2.1 = true ∧ x.2.2.fp.apart t.2.2.fp = true) → Runs E rts n all (t :: (L1 ++ L2)) fr fr'
  | [], L2, t, fr, fr', h, _ => h
  | x :: L1, L2, t, fr, fr', h, hap => by
    obtain ⟨hx, h1⟩ := h
    obtain ⟨ht, h2⟩ := Runs.front h1 fun y hy => hap y (List.mem_cons_of_mem _ hy)
    obtain ⟨s1, s2, s3⟩ := swap (hap x (List.mem_cons_self ..)).1 (hap x (List.mem_cons_self ..)).2 hx ht
    refine ⟨s1, s2, ?_⟩
    show Runs E rts n all (L1 ++ L2) (x.2.2.on x.2.1 (t.2.2.on t.2.1 fr)) fr'
    rw [s3]; exact h2
theorem exec_runs {α : Type} : ∀ {os : List Oper} {fr : Fr} {k : Fr → List FP → Option α} {r : α} (m : Nat), execOps E rts n all os fr k = some r →
    ∃ (T : List Done) (fr' : Fr), T.map (·.1) = List.range' m os.length ∧ T.map (·.2.1) = os ∧ Runs E rts n all T fr fr' ∧ k fr' (T.map (·.2.2.fp)) = some r
  | [], fr, k, r, m, h => ⟨[], fr, rfl, rfl, rfl, h⟩
  | o :: os, fr, k, r, m, h => by
    rw [execOps_cons] at h
    obtain ⟨e, h1, hs⟩ := step_loc h
    obtain ⟨T, fr', t1, t2, t3, t4⟩ := exec_runs (m + 1) h1
    exact ⟨(m, o, e) :: T, fr', by simp [t1, List.range'_succ], by simp [t2], ⟨hs, t3⟩, t4⟩
end
end Go.Abs
