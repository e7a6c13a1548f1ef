/- Every operation is local in the store: those that change it. -/
import Derived.Test.YtilkpebjgmkbmaaGreatAbsLoc2
namespace Go.Abs
set_option linter.unusedVariables false
section
variable (E : Env) (sl : Nat → AV)
def writeEl (ei : TI) (i : TI) (b j z off : Nat) (v' : AV) : StT AV := fun β s k => match s b with
  | .rowL e1 z1 l1 false => norm ei (l1.getD j .undef) fun old =>
      bif v'.cells.length == i.size && Nat.ble (off + i.size) old.cells.length && Nat.blt 0 i.size && Nat.beq z1 z && Nat.blt j l1.length then
        k .undef (upd s b (.rowL e1 z1 (l1.set j (setEl ei old off v'.cells)) false)) ⟨[b], [b]⟩
      else none
  | _ => none
theorem merge_upd2 {t r : Nat} {st st2 : Nat → Blk} {b c : Blk} : merge [t, r] (upd (upd st r c) t b) st2 = upd (upd st2 r c) t b := by
  funext x
  unfold merge
  by_cases e : x = t
  · subst e; simp [upd_same]
  · by_cases e2 : x = r
    · subst e2; simp [upd_ne _ _ e, upd_same]
    · simp [e, e2, upd_ne _ _ e, upd_ne _ _ e2]
theorem Loc.set2 {A : Type} {T : StT A} {st : Nat → Blk} {a : A} {rd : List Nat} {t r : Nat} {b c : Blk} (h : ∀ st2, (∀ x ∈ rd, st2 x = st x) → ∀ β k2, T β st2 k2 = k2 a (upd (upd st2 r c) t b) ⟨rd, [t, r]⟩) : Loc T st a (upd (upd st r c) t b) ⟨rd, [t, r]⟩ :=
  ⟨fun x hx => by
    simp only [List.mem_cons, List.not_mem_nil, or_false, not_or] at hx
    rw [upd_ne _ _ hx.1, upd_ne _ _ hx.2], fun st2 h2 β k2 => by rw [h st2 h2, merge_upd2]⟩
theorem loc_doStore (i : TI) (a v : AV) : IsLoc (fun β s k => doStore E ⟨sl, s⟩ i a v k) := by
  refine ⟨fun {α st k r} hk => ?_⟩
  unfold doStore at hk
  split at hk
  · rename_i b off
    split at hk
    · rename_i cs hs
      obtain ⟨hc, h1⟩ := bif_inv hk
      refine ⟨_, _, _, h1, Loc.set1 fun s2 hs2 β k2 => ?_⟩
      have e := (hs2 b (by simp)).trans hs
      simp only [doStore, e, hc, cond_true]
    · cases hk
  · rename_i b j sz off
    split at hk
    · rename_i e l q hs
      obtain ⟨x, rfl, h1⟩ := onU8_det hk
      obtain ⟨hc, h2⟩ := chk_inv h1
      refine ⟨_, _, _, h2, Loc.set1 fun s2 hs2 β k2 => ?_⟩
      have e := (hs2 b (by simp)).trans hs
      simp only [doStore, e, AV.onU8, hc, chk, cond_true]
    · rename_i l q hs
      obtain ⟨x, rfl, h1⟩ := onU8_det hk
      obtain ⟨hc, h2⟩ := chk_inv h1
      refine ⟨_, _, _, h2, Loc.set1 fun s2 hs2 β k2 => ?_⟩
      have e := (hs2 b (by simp)).trans hs
      simp only [doStore, e, AV.onU8, hc, chk, cond_true]
    · rename_i e z l q hs
      split at hk
      · rename_i ei hei
        obtain ⟨hc, h1⟩ := chk_inv hk
        obtain ⟨v', st1, f1, h2, l1⟩ := (loc_out i v).go h1
        split at h2
        · rename_i e1 z1 l1' hs1
          obtain ⟨h3, h4⟩ := norm_det h2
          obtain ⟨hc2, h5⟩ := bif_inv h3
          refine ⟨_, _, _, h5, ?_⟩
          -- first the value goes out, then the row is written
          have l2 : Loc (writeEl ei i b j z off v') st1 .undef (upd st1 b (.rowL e1 z1 (l1'.set j (setEl ei (l1'.getD j .undef) off v'.cells)) false)) ⟨[b], [b]⟩ :=
            Loc.set1 fun s2 hs2 β k2 => by
              have e := (hs2 b (by simp)).trans hs1
              simp only [writeEl, e, h4, hc2, cond_true]
          have l3 := Loc.bind (f := fun _ c => c) (U := fun v' => writeEl ei i b j z off v') l1 l2
          refine l3.congr fun s hs0 β k => ?_
          have hm : b ∈ (FP.add f1 ⟨[b], [b]⟩).rd := List.mem_append.2 (.inr (List.mem_singleton.2 rfl))
          have e : s b = .rowL e z l q := (hs0 b hm).trans hs
          simp only [doStore, e, hei, hc, chk, cond_true, writeEl]
          rfl
        · cases h2
      · cases hk
    · cases hk
  · cases hk
theorem onBs_det {v : AV} {α : Type} {f : List UInt8 → Option α} {r : α} (h : v.onBs f = some r) : ∃ b, v = .bs b ∧ f b = some r := by
  unfold AV.onBs at h; split at h
  · exact ⟨_, rfl, h⟩
  · cases h
theorem loc_doSlice3 (i : TI) (x : AV) (lo : Option AV) (hi m : AV) : IsLoc (fun β s k => doSlice3 ⟨sl, s⟩ i x lo hi m k) := by
  unfold doSlice3
  split
  · refine ⟨fun {α st k r} hk => ?_⟩
    obtain ⟨v, st1, f1, h1, l1⟩ := (loc_out1 .bsl x).go hk
    obtain ⟨l, rfl, h2⟩ := onBs_det h1
    split at h2
    · rename_i a b c ha hb hc0
      obtain ⟨hc, h3⟩ := chk_inv h2
      refine ⟨_, _, _, h3, ⟨l1.eff, fun s hs β k => ?_⟩⟩
      rw [l1.run s hs]
      simp only [AV.onBs, ha, hb, hc0, hc, chk, cond_true]
    · cases h2
  · exact IsLoc.none
theorem loc_doView (i : TI) (x : AV) (lo hi : Option AV) : IsLoc (fun β s k => doView ⟨sl, s⟩ i x lo hi k) := by
  refine ⟨fun {α st k r} hk => ?_⟩
  unfold doView at hk
  split at hk
  · rename_i e b hkd
    split at hk
    · rename_i e' l q hs
      split at hk
      · rename_i hv
        split at hk
        · rename_i n hn
          obtain ⟨hc, h3⟩ := chk_inv hk
          refine ⟨_, _, _, h3, Loc.reads fun s2 hs2 β k2 => ?_⟩
          have e := (hs2 b (by simp)).trans hs
          simp only [doView, hkd, e, hn, hc, chk, cond_true]
        · cases hk
      · rename_i hv
        split at hk
        · rename_i n hn
          obtain ⟨hc, h3⟩ := chk_inv hk
          refine ⟨_, _, _, h3, Loc.reads fun s2 hs2 β k2 => ?_⟩
          have e := (hs2 b (by simp)).trans hs
          simp only [doView, hkd, e, hn, hc, chk, cond_true]
        · cases hk
      · cases hk
    · cases hk
  · cases hk
theorem loc_doSlice (i : TI) (x : AV) (lo hi mx : Option AV) : IsLoc (fun β s k => doSlice E ⟨sl, s⟩ i x lo hi mx k) := by
  unfold doSlice
  split
  · exact IsLoc.none
  · split
    · cases x <;> simp only [AV.onStr] <;> try exact IsLoc.none
      split
      · exact (IsLoc.ret _).chk _
      · exact IsLoc.none
    · refine ⟨fun {α st k r} hk => ?_⟩
      obtain ⟨v, st1, f1, h1, l1⟩ := (loc_out1 .bsl x).go hk
      obtain ⟨l, rfl, h2⟩ := onBs_det h1
      split at h2
      · rename_i a b ha hb
        obtain ⟨hc, h3⟩ := chk_inv h2
        refine ⟨_, _, _, h3, ⟨l1.eff, fun s hs β k => ?_⟩⟩
        rw [l1.run s hs]
        simp only [AV.onBs, ha, hb, hc, chk, cond_true]
      · cases h2
    · split
      · rename_i ei hei
        refine ⟨fun {α st k r} hk => ?_⟩
        obtain ⟨v, st1, f1, h1, l1⟩ := (loc_out1 (.sl ei.size) x).go hk
        obtain ⟨l, rfl, h2⟩ := onSl_inv h1
        split at h2
        · rename_i a b ha hb
          obtain ⟨hc, h3⟩ := chk_inv h2
          refine ⟨_, _, _, h3, ⟨l1.eff, fun s hs β k => ?_⟩⟩
          rw [l1.run s hs]
          simp only [AV.onSl, Nat.beq_refl, cond_true, ha, hb, hc, chk]
        · cases h2
      · exact IsLoc.none
    · split
      · rename_i b
        refine ⟨fun {α st k r} hk => ?_⟩
        split at hk
        · rename_i l q hs
          split at hk
          · rename_i a c ha hb
            obtain ⟨hc, h3⟩ := chk_inv hk
            refine ⟨_, _, _, h3, Loc.set1 fun s2 hs2 β k2 => ?_⟩
            have e := (hs2 b (by simp)).trans hs
            simp only [e, ha, hb, hc, chk, cond_true]
          · cases hk
        · cases hk
      · exact IsLoc.none
    · exact IsLoc.none
end
end Go.Abs
