/- Every operation is local in the store: append, literals, calls; all of them. -/
import Derived.Test.YtilkpebjgmkbmaaGreatAbsLoc3
namespace Go.Abs
set_option linter.unusedVariables false
section
variable (E : Env) (sl : Nat → AV)
theorem loc_appB (t e : Nat) (s : AV) (new : List UInt8) (fp : FP) {α : Type} {st : Nat → Blk} {k : Ret α} {r : α} (hk : appB ⟨sl, st⟩ t e s new fp k = some r) (hf : fp.wr = []) :
    ∃ a st' fp', k a st' fp' = some r ∧ (∀ x, x ∉ fp'.wr → st' x = st x) ∧ (∀ x ∈ fp.rd, x ∈ fp'.rd) ∧ t ∈ fp'.rd ∧ ∀ st2, (∀ x ∈ fp'.rd, st2 x = st x) → ∀ (β : Type) (k2 : Ret β), appB ⟨sl, st2⟩ t e s new fp k2 = k2 a (merge fp'.wr st' st2) fp' := by
  unfold appB at hk
  split at hk
  · obtain ⟨hc, h1⟩ := chk_inv hk
    refine ⟨_, _, _, h1, fun x hx => upd_ne _ _ (by simpa using hx), fun x hx => by simp [hx], by simp, fun st2 h2 β k2 => ?_⟩
    simp only [appB, hc, chk, cond_true]
    rw [merge_upd1]
  · rename_i b
    split at hk
    · rename_i e' l q hs
      obtain ⟨hc, h1⟩ := chk_inv hk
      refine ⟨_, _, _, h1, fun x hx => ?_, fun x hx => by simp [hx], by simp, fun st2 h2 β k2 => ?_⟩
      · simp only [List.mem_cons, List.not_mem_nil, or_false, not_or] at hx
        show upd (upd st b .dead) t _ x = st x
        rw [upd_ne _ _ hx.1, upd_ne _ _ hx.2]
      · have e := (h2 b (by simp)).trans hs
        simp only [appB, e, hc, chk, cond_true]
        rw [merge_upd2]
    · cases hk
  · cases hk
theorem loc_appL (t e : Nat) (ei : TI) (s : AV) (new : List AV) (fp : FP) {α : Type} {st : Nat → Blk} {k : Ret α} {r : α} (hk : appL ⟨sl, st⟩ t e ei s new fp k = some r) (hf : fp.wr = []) :
    ∃ a st' fp', k a st' fp' = some r ∧ (∀ x, x ∉ fp'.wr → st' x = st x) ∧ (∀ x ∈ fp.rd, x ∈ fp'.rd) ∧ t ∈ fp'.rd ∧ ∀ st2, (∀ x ∈ fp'.rd, st2 x = st x) → ∀ (β : Type) (k2 : Ret β), appL ⟨sl, st2⟩ t e ei s new fp k2 = k2 a (merge fp'.wr st' st2) fp' := by
  unfold appL at hk
  split at hk
  · obtain ⟨hc, h1⟩ := chk_inv hk
    refine ⟨_, _, _, h1, fun x hx => upd_ne _ _ (by simpa using hx), fun x hx => by simp [hx], by simp, fun st2 h2 β k2 => ?_⟩
    simp only [appL, hc, chk, cond_true]
    rw [merge_upd1]
  · rename_i b
    split at hk
    · rename_i e' z l q hs
      obtain ⟨hc, h1⟩ := chk_inv hk
      refine ⟨_, _, _, h1, fun x hx => ?_, fun x hx => by simp [hx], by simp, fun st2 h2 β k2 => ?_⟩
      · simp only [List.mem_cons, List.not_mem_nil, or_false, not_or] at hx
        show upd (upd st b .dead) t _ x = st x
        rw [upd_ne _ _ hx.1, upd_ne _ _ hx.2]
      · have e := (h2 b (by simp)).trans hs
        simp only [appL, e, hc, chk, cond_true]
        rw [merge_upd2]
    · cases hk
  · cases hk
theorem loc_appS (t e : Nat) (s : AV) (r0 m : Nat) {α : Type} {st : Nat → Blk} {k : Ret α} {r : α} (hk : appS ⟨sl, st⟩ t e s r0 m k = some r) :
    ∃ a st' fp', k a st' fp' = some r ∧ (∀ x, x ∉ fp'.wr → st' x = st x) ∧ t ∈ fp'.rd ∧ ∀ st2, (∀ x ∈ fp'.rd, st2 x = st x) → ∀ (β : Type) (k2 : Ret β), appS ⟨sl, st2⟩ t e s r0 m k2 = k2 a (merge fp'.wr st' st2) fp' := by
  unfold appS at hk
  split at hk
  · split at hk
    · rename_i e' l q hs
      obtain ⟨hc, h1⟩ := chk_inv hk
      refine ⟨_, _, _, h1, fun x hx => ?_, by simp, fun st2 h2 β k2 => ?_⟩
      · simp only [List.mem_cons, List.not_mem_nil, or_false, not_or] at hx
        show upd (upd st r0 .dead) t _ x = st x
        rw [upd_ne _ _ hx.1, upd_ne _ _ hx.2]
      · have e := (h2 r0 (by simp)).trans hs
        simp only [appS, e, hc, chk, cond_true]
        rw [merge_upd2]
    · cases hk
  · cases hk
theorem bytesOf_loc {st : Nat → Blk} {v : AV} {α : Type} {k : List UInt8 → FP → Option α} {r : α} (h : bytesOf st v k = some r) : ∃ l fp, k l fp = some r ∧ fp.wr = [] ∧ ∀ st2, (∀ x ∈ fp.rd, st2 x = st x) → ∀ (β : Type) (k2 : List UInt8 → FP → Option β), bytesOf st2 v k2 = k2 l fp := by
  unfold bytesOf at h
  split at h
  · exact ⟨_, _, h, rfl, fun st2 _ β k2 => by simp only [bytesOf]⟩
  · exact ⟨_, _, h, rfl, fun st2 _ β k2 => by simp only [bytesOf]⟩
  · rename_i b
    split at h
    · rename_i e l q hs
      exact ⟨_, _, h, rfl, fun st2 h2 β k2 => by have e := (h2 b (by simp)).trans hs; simp only [bytesOf, e]⟩
    · cases h
  · cases h
theorem elsOf_loc {sz : Nat} {st : Nat → Blk} {v : AV} {α : Type} {k : List AV → FP → Option α} {r : α} (h : elsOf sz st v k = some r) : ∃ l fp, k l fp = some r ∧ fp.wr = [] ∧ ∀ st2, (∀ x ∈ fp.rd, st2 x = st x) → ∀ (β : Type) (k2 : List AV → FP → Option β), elsOf sz st2 v k2 = k2 l fp := by
  unfold elsOf at h
  split at h
  · obtain ⟨hc, h1⟩ := bif_inv h
    exact ⟨_, _, h1, rfl, fun st2 _ β k2 => by simp only [elsOf, hc, cond_true]⟩
  · exact ⟨_, _, h, rfl, fun st2 _ β k2 => by simp only [elsOf]⟩
  · rename_i b
    split at h
    · rename_i e z l q hs
      obtain ⟨hc, h1⟩ := bif_inv h
      exact ⟨_, _, h1, rfl, fun st2 h2 β k2 => by have e := (h2 b (by simp)).trans hs; simp only [elsOf, e, hc, cond_true]⟩
    · cases h
  · cases h
theorem loc_doAppend (t : Nat) (i : TI) (s x : AV) : IsLoc (fun β st k => doAppend E ⟨sl, st⟩ t i s x k) := by
  refine ⟨fun {α st k r} hk => ?_⟩
  have hk0 := hk
  unfold doAppend at hk
  split at hk
  · rename_i ht
    split at hk
    · rename_i e hkd
      split at hk
      · rename_i l
        obtain ⟨a, st', fp', h1, h2, h3, h4, h5⟩ := loc_appB sl t e s l .none hk rfl
        refine ⟨a, st', fp', h1, h2, fun st2 hs β k2 => ?_⟩
        have e := (hs t h4).trans ht
        simp only [doAppend, e, hkd]
        exact h5 st2 hs β k2
      · rename_i r0 m
        obtain ⟨a, st', fp', h1, h2, h4, h5⟩ := loc_appS sl t e s r0 m hk
        refine ⟨a, st', fp', h1, h2, fun st2 hs β k2 => ?_⟩
        have e := (hs t h4).trans ht
        simp only [doAppend, e, hkd]
        exact h5 st2 hs β k2
      · rename_i y hy
        obtain ⟨new, fp, g1, g2, g3⟩ := bytesOf_loc hk
        obtain ⟨a, st', fp', h1, h2, h3, h4, h5⟩ := loc_appB sl t e s new fp g1 g2
        refine ⟨a, st', fp', h1, h2, fun st2 hs β k2 => ?_⟩
        have e := (hs t h4).trans ht
        simp only [doAppend, e, hkd]
        rw [g3 st2 fun x hx => hs x (h3 x hx)]
        exact h5 st2 hs β k2
    · rename_i e hkd
      split at hk
      · cases hk
      · rename_i ei hei
        obtain ⟨new, fp, g1, g2, g3⟩ := elsOf_loc hk
        obtain ⟨a, st', fp', h1, h2, h3, h4, h5⟩ := loc_appL sl t e ei s new fp g1 g2
        refine ⟨a, st', fp', h1, h2, fun st2 hs β k2 => ?_⟩
        have e := (hs t h4).trans ht
        simp only [doAppend, e, hkd, hei]
        rw [g3 st2 fun x hx => hs x (h3 x hx)]
        exact h5 st2 hs β k2
    · cases hk
  · cases hk
theorem loc_doMake (t : Nat) (i : TI) (l c : AV) : IsLoc (fun β s k => doMake ⟨sl, s⟩ t i l c k) := by
  unfold doMake
  split
  · exact (loc_newBlk sl _ _ _).chk _
  · exact IsLoc.none
theorem loc_doBuild (i : TI) (ps : List (Nat × AV)) : IsLoc (fun β s k => doBuild E i ⟨sl, s⟩ ps k) := by
  unfold doBuild
  split
  · split
    · exact IsLoc.ret _
    · exact IsLoc.none
  · exact IsLoc.none
theorem loc_outParts (ei : TI) : ∀ (ps : List (Nat × AV)), IsLoc (fun β s k => outParts ei ps s k)
  | [] => (IsLoc.ret []).of_eq fun _ _ _ => rfl
  | (i, v) :: r => (IsLoc.bind (f := fun a l => (i, a) :: l) (loc_out ei v) fun _ => loc_outParts ei r).of_eq fun _ _ _ => by simp only [outParts]
theorem loc_doBuildOwn (d : Nat) (i : TI) (len : Nat) (ps : List (Nat × AV)) : IsLoc (fun β s k => doBuildOwn ⟨sl, s⟩ d i len ps k) := by
  unfold doBuildOwn
  split
  · split
    · exact (loc_newBlk sl _ _ _).cond _
    · exact IsLoc.none
  · exact IsLoc.none
theorem loc_doBuildSlice (i : TI) (len : Nat) (ps : List (Nat × AV)) : IsLoc (fun β s k => doBuildSlice E ⟨sl, s⟩ i len ps k) := by
  unfold doBuildSlice
  split
  · split
    · split
      · exact IsLoc.ret _
      · exact IsLoc.none
    · split
      · split
        · exact (IsLoc.ret _).cond _
        · exact IsLoc.none
      split
      · rename_i ei _ _ _
        refine IsLoc.cond _ ⟨fun {α st k r} hk => ?_⟩
        obtain ⟨qs, st1, f1, h1, l1⟩ := (loc_outParts ei ps).go hk
        split at h1
        · rename_i els he
          split at h1
          · split at h1
            · rename_i l hu
              refine ⟨_, _, _, h1, ⟨l1.eff, fun s hs β k => ?_⟩⟩
              rw [l1.run s hs]
              simp only [he, hu]
            · cases h1
          · obtain ⟨hc, h2⟩ := bif_inv h1
            refine ⟨_, _, _, h2, ⟨l1.eff, fun s hs β k => ?_⟩⟩
            rw [l1.run s hs]
            simp only [he, hc, cond_true]
        · cases h1
      · exact IsLoc.none
  · exact IsLoc.none
theorem loc_outArgs : ∀ (j : Nat) (tys : List Nat) (vs : List AV), IsLoc (A := List AV × List (Nat × Nat × List AV)) (fun β s k => outArgs E j tys vs s fun l bl s1 fp => k (l, bl) s1 fp)
  | j, [], [] => (IsLoc.ret ([], [])).of_eq fun _ _ _ => rfl
  | j, ty :: tys, v :: vs => by
    refine ⟨fun {α st k r} hk => ?_⟩
    simp only [outArgs] at hk
    split at hk
    · rename_i b off
      split at hk
      · rename_i cs hst
        split at hk
        · rename_i ei hei
          obtain ⟨hc, hk1⟩ := bif_inv hk
          obtain ⟨cs', st1, f1, hk2, l1⟩ := (loc_outCs ei.cts cs).go hk1
          obtain ⟨⟨l, bl⟩, st2, f2, hk3, l2⟩ := (loc_outArgs (j + 1) tys vs).go (k := fun x s f => bif x.2.any (fun y => y.2.1 == b) then none else k (.ptr j 0 :: x.1, (j, b, cs') :: x.2) s (FP.add ⟨b :: f1.rd, b :: f1.wr⟩ f)) hk2
          cases hany : (bl.any fun y => y.2.1 == b) with
          | true => simp only [hany, cond_true] at hk3; cases hk3
          | false =>
            simp only [hany, cond_false] at hk3
            refine ⟨_, _, _, hk3, ⟨fun x hx => ?_, fun s hs β k2 => ?_⟩⟩
            · simp only [FP.add, List.cons_append, List.mem_cons, List.mem_append, not_or] at hx
              rw [l2.eff x hx.2.2, l1.eff x hx.2.1]
            · simp only [FP.add, List.cons_append, List.mem_cons, List.mem_append] at hs
              have e := (hs b (.inl rfl)).trans hst
              simp only [outArgs, e, hei, hc, cond_true]
              rw [l1.run s fun x hx => hs x (.inr (.inl hx))]
              have hr2 := l2.run (merge f1.wr st1 s) (fun x hx => by
                simp only [merge]
                split
                · rfl
                · rename_i hn; rw [hs x (.inr (.inr hx)), l1.eff x hn]) β (fun x s f => bif x.2.any (fun y => y.2.1 == b) then none else k2 (.ptr j 0 :: x.1, (j, b, cs') :: x.2) s (FP.add ⟨b :: f1.rd, b :: f1.wr⟩ f))
              simp only at hr2
              rw [hr2]
              simp only [hany, cond_false]
              congr 1
              funext x
              simp only [merge, FP.add, List.cons_append, List.mem_cons, List.mem_append]
              by_cases e2 : x ∈ f2.wr
              · simp [e2]
              · by_cases e1 : x ∈ f1.wr
                · simp [e1, e2, l2.eff x e2]
                · by_cases e0 : x = b
                  · subst e0
                    simp only [e1, e2, or_false, if_true, if_false]
                    rw [l2.eff x e2, l1.eff x e1, hs x (.inl rfl)]
                  · simp [e0, e1, e2]
        · cases hk
      · cases hk
    · rename_i hv
      split at hk
      · rename_i i hi
        obtain ⟨a, st1, f1, hk1, l1⟩ := (loc_outA i v).go hk
        obtain ⟨⟨l, bl⟩, st2, f2, hk2, l2⟩ := (loc_outArgs (j + 1) tys vs).go (k := fun x s f => k (a :: x.1, x.2) s (f1.add f)) hk1
        refine ⟨_, _, _, hk2, ?_⟩
        refine (Loc.bind (f := fun a (x : List AV × List (Nat × Nat × List AV)) => (a :: x.1, x.2)) (U := fun _ => fun β s k => outArgs E (j + 1) tys vs s fun l bl s1 fp => k (l, bl) s1 fp) l1 l2).congr fun s _ β k => ?_
        simp only [outArgs, hi]
      · cases hk
  | _, [], _ :: _ => IsLoc.none.of_eq fun _ _ _ => by simp [outArgs]
  | _, _ :: _, [] => IsLoc.none.of_eq fun _ _ _ => by simp [outArgs]
end
end Go.Abs
