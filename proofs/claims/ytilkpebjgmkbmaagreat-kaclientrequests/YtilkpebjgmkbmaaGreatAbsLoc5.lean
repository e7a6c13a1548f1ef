/- Calls are local in the store; so is every operation. -/
import Derived.Test.YtilkpebjgmkbmaaGreatAbsLoc4
namespace Go.Abs
set_option linter.unusedVariables false
section
variable (E : Env) (sl : Nat → AV)
theorem loc_inRes (own : Bool) (t : Nat) (i : TI) (v : AV) : IsLoc (fun β s k => inRes E own t i v s k) := by
  unfold inRes
  split
  · rename_i e _
    refine ⟨fun {α st k r} hk => ?_⟩
    split at hk
    · rename_i hs
      obtain ⟨l, rfl, h1⟩ := onOwnB_inv hk
      refine ⟨_, _, _, h1, Loc.set1 fun s2 h2 β k2 => ?_⟩
      have e := (h2 t (by simp)).trans hs
      simp only [e, AV.onOwnB]
    · cases hk
  · rename_i e _
    refine ⟨fun {α st k r} hk => ?_⟩
    split at hk
    · rename_i ei hs hei
      obtain ⟨l, rfl, h1⟩ := onOwnL_inv hk
      refine ⟨_, _, _, h1, Loc.set1 fun s2 h2 β k2 => ?_⟩
      have e := (h2 t (by simp)).trans hs
      simp only [e, hei, AV.onOwnL]
    · cases hk
  · refine ⟨fun {α st k r} hk => ?_⟩
    obtain ⟨h1, h2⟩ := norm_det hk
    exact ⟨_, _, _, h1, (Loc.ret _ _).congr fun s _ β k => by rw [h2]⟩
theorem loc_inTup : ∀ (own : Bool) (t : Nat) (tys : List Nat) (l : List AV), IsLoc (fun β s k => inTup E own t tys l s k)
  | own, t, [], l => by
    cases l with
    | nil => exact (IsLoc.ret []).of_eq fun _ _ _ => rfl
    | cons x r => exact IsLoc.none.of_eq fun _ _ _ => rfl
  | own, t, ty :: tys, l => by
    cases l with
    | nil =>
      refine IsLoc.none.of_eq fun _ _ _ => ?_
      simp only [inTup]
      cases E.ty ty <;> rfl
    | cons x r =>
      cases hty : E.ty ty with
      | none => exact IsLoc.none.of_eq fun _ _ _ => by simp only [inTup, hty]
      | some i => exact (IsLoc.bind (f := fun a l => a :: l) (loc_inRes E own t i x) fun _ => loc_inTup false (t + 4096) tys r).of_eq fun _ _ _ => by simp only [inTup, hty, onCons]
def backSt : List (Nat × Nat × List AV) → Blocks → (Nat → Blk) → Nat → Blk
  | (_, b, _) :: r, cs :: bs, st => backSt r bs (upd st b (.cells cs))
  | _, _, st => st
theorem inBlks_det : ∀ {bl : List (Nat × Nat × List AV)} {bs : Blocks} {st : Nat → Blk} {α : Type} {k : (Nat → Blk) → Option α} {r : α}, inBlks bl bs st k = some r → k (backSt bl bs st) = some r ∧ ∀ (s : Nat → Blk) (β : Type) (k2 : (Nat → Blk) → Option β), inBlks bl bs s k2 = k2 (backSt bl bs s)
  | [], bs, st, α, k, r, h => by
    obtain ⟨rfl, h⟩ := onNilB_inv h
    exact ⟨h, fun _ _ _ => rfl⟩
  | (j, b, old) :: tl, bs, st, α, k, r, h => by
    simp only [inBlks] at h
    obtain ⟨cs, bs', rfl, h⟩ := onConsB_inv h
    obtain ⟨h1, _, hd⟩ := normLikes_inv h
    obtain ⟨h2, h3⟩ := inBlks_det h1
    exact ⟨h2, fun s β k2 => by simp only [inBlks, onConsB, backSt]; rw [hd]; exact h3 _ β k2⟩
theorem backSt_at : ∀ {bl : List (Nat × Nat × List AV)} {bs : Blocks} {s s2 : Nat → Blk} {x : Nat}, (x ∉ bl.map (·.2.1) → backSt bl bs s x = s x) ∧ (s x = s2 x → backSt bl bs s x = backSt bl bs s2 x)
  | [], bs, s, s2, x => ⟨fun _ => by cases bs <;> rfl, fun h => by cases bs <;> exact h⟩
  | (j, b, old) :: tl, [], s, s2, x => ⟨fun _ => rfl, fun h => h⟩
  | (j, b, old) :: tl, cs :: bs, s, s2, x => by
    refine ⟨fun hx => ?_, fun h => ?_⟩
    · simp only [List.map_cons, List.mem_cons, not_or] at hx
      simp only [backSt]
      rw [(backSt_at (s2 := s2)).1 hx.2, upd_ne _ _ hx.1]
    · simp only [backSt]
      refine (backSt_at).2 ?_
      by_cases e : x = b
      · subst e; rw [upd_same, upd_same]
      · rw [upd_ne _ _ e, upd_ne _ _ e]; exact h
theorem outArgs_keys : ∀ {j : Nat} {tys : List Nat} {vs : List AV} {st : Nat → Blk} {l : List AV} {bl : List (Nat × Nat × List AV)} {st' : Nat → Blk} {fp : FP}, (outArgs E j tys vs st fun l bl s fp => trip (l, bl) s fp) = some ((l, bl), st', fp) → ∀ x ∈ bl.map (·.2.1), x ∈ fp.wr ∧ x ∈ fp.rd
  | j, [], [], st, l, bl, st', fp, h => by simp only [outArgs, trip] at h; cases h; intro x hx; simp at hx
  | j, ty :: tys, v :: vs, st, l, bl, st', fp, h => by
    simp only [outArgs] at h
    split at h
    · rename_i b off
      split at h
      · rename_i cs hst
        split at h
        · rename_i ei hei
          obtain ⟨hc, hk1⟩ := bif_inv h
          obtain ⟨cs', st1, f1, hk2, l1⟩ := (loc_outCs ei.cts cs).go hk1
          obtain ⟨⟨l', bl'⟩, st2, f2, hk3, l2⟩ := (loc_outArgs E (j + 1) tys vs).go (k := fun x s f => bif x.2.any (fun y => y.2.1 == b) then none else trip (AV.ptr j 0 :: x.1, (j, b, cs') :: x.2) s (FP.add ⟨b :: f1.rd, b :: f1.wr⟩ f)) hk2
          have ih := outArgs_keys (l2.here _ trip)
          cases hany : (bl'.any fun y => y.2.1 == b) with
          | true => simp only [hany, cond_true] at hk3; cases hk3
          | false =>
            simp only [hany, cond_false] at hk3
            cases hk3
            intro x hx
            simp only [List.map_cons, List.mem_cons] at hx
            simp only [FP.add, List.cons_append, List.mem_cons, List.mem_append]
            rcases hx with hx | hx
            · exact ⟨.inl hx, .inl hx⟩
            · exact ⟨.inr (.inr (ih x hx).1), .inr (.inr (ih x hx).2)⟩
        · cases h
      · cases h
    · split at h
      · rename_i i hi
        obtain ⟨a, st1, f1, hk1, l1⟩ := (loc_outA i v).go h
        obtain ⟨⟨l', bl'⟩, st2, f2, hk2, l2⟩ := (loc_outArgs E (j + 1) tys vs).go (k := fun x s f => trip (a :: x.1, x.2) s (f1.add f)) hk1
        have ih := outArgs_keys (l2.here _ trip)
        cases hk2
        intro x hx
        simp only [FP.add, List.mem_append]
        exact ⟨.inr (ih x hx).1, .inr (ih x hx).2⟩
      · cases h
  | _, [], _ :: _, _, _, _, _, _, h => by simp [outArgs] at h
  | _, _ :: _, [], _, _, _, _, _, h => by simp [outArgs] at h
end
end Go.Abs
