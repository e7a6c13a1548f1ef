/- Every operation is local in the store. -/
import Derived.Test.YtilkpebjgmkbmaaGreatAbsLoc
namespace Go.Abs
set_option linter.unusedVariables false
theorem IsLoc.pureO {A B : Type} {T : (β : Type) → (B → Option β) → Option β} {f : B → A} (h : ∀ {α : Type} {k : B → Option α} {r : α}, T α k = some r → ∃ b, k b = some r ∧ ∀ β k2, T β k2 = k2 b) : IsLoc (fun β s k => T β fun b => k (f b) s .none) := by
  refine ⟨fun {α st k r} hk => ?_⟩
  obtain ⟨b, hb, ht⟩ := h hk
  exact ⟨_, _, _, hb, (Loc.ret _ _).congr fun s _ β k => by rw [ht]⟩
theorem loadCells_det {i : TI} {cs : List AV} {α : Type} {k : AV → Option α} {r : α} (h : loadCells i cs k = some r) : ∃ b, k b = some r ∧ ∀ (β : Type) (k2 : AV → Option β), loadCells i cs k2 = k2 b := by
  unfold loadCells at h ⊢
  obtain ⟨hb, h1⟩ := bif_inv h
  rw [hb]
  split at h1
  · exact ⟨_, h1, fun β k2 => by simp⟩
  · cases cs with
    | nil => cases h1
    | cons c cs => exact ⟨_, h1, fun β k2 => by simp⟩
theorem norm_det {i : TI} {v : AV} {α : Type} {k : AV → Option α} {r : α} (h : norm i v k = some r) : k v = some r ∧ ∀ (β : Type) (k2 : AV → Option β), norm i v k2 = k2 v := by
  have h1 := norm_inv h
  refine ⟨h1, fun β k2 => ?_⟩
  rw [norm_cps] at h ⊢
  obtain ⟨x, hx, hx2⟩ := bind_inv h
  have := norm_inv hx
  cases this
  rw [hx]; rfl
theorem pickP_det {α : Type} : ∀ {l : List Nat} {n : Nat} {f : Nat → Option α} {r : α}, pickP l n f = some r → ∃ o, f o = some r ∧ ∀ (β : Type) (f2 : Nat → Option β), pickP l n f2 = f2 o
  | [], n, f, r, h => by cases h
  | o :: l, n, f, r, h => by
    simp only [pickP, sel] at h ⊢
    cases hb : Nat.beq n 0 with
    | true => rw [hb] at h; exact ⟨o, h, fun _ _ => rfl⟩
    | false => rw [hb] at h; exact pickP_det h
theorem onU8_det {v : AV} {α : Type} {f : UInt8 → Option α} {r : α} (h : v.onU8 f = some r) : ∃ b, v = .u8 b ∧ f b = some r := by
  unfold AV.onU8 at h; split at h
  · exact ⟨_, rfl, h⟩
  · cases h
section
variable (E : Env) (sl : Nat → AV)
theorem loc_newBlk (t : Nat) (b : Blk) (v : AV) : IsLoc (fun β s k => newBlk ⟨sl, s⟩ t b v k) := by
  refine ⟨fun {α st k r} hk => ?_⟩
  unfold newBlk at hk
  split at hk
  · rename_i hs
    refine ⟨_, _, _, hk, Loc.set1 fun s2 h2 β k2 => ?_⟩
    have := h2 t (by simp)
    simp only at hs
    simp [newBlk, this, hs]
  · cases hk
theorem loc_doLoad (i : TI) (a : AV) : IsLoc (fun β s k => doLoad E ⟨sl, s⟩ i a k) := by
  refine ⟨fun {α st k r} hk => ?_⟩
  unfold doLoad at hk
  split at hk
  · rename_i b off
    split at hk
    · rename_i cs hs
      obtain ⟨v, h1, h2⟩ := loadCells_det hk
      refine ⟨_, _, _, h1, Loc.reads fun s2 hs2 β k2 => ?_⟩
      have e := (hs2 b (by simp)).trans hs
      simp only [doLoad, e, h2]
    · cases hk
  · obtain ⟨v, h1, h2⟩ := loadCells_det hk
    exact ⟨_, _, _, h1, (Loc.ret _ _).congr fun s _ β k => by simp only [doLoad, h2]⟩
  · rename_i b off
    split at hk
    · rename_i e hkd
      obtain ⟨hc, h1⟩ := chk_inv hk
      exact ⟨_, _, _, h1, (Loc.ret _ _).congr fun s _ β k => by simp only [doLoad, hkd, hc, chk, cond_true]⟩
    · cases hk
  · rename_i b j sz off
    split at hk
    · rename_i e l q hs
      obtain ⟨hc, h1⟩ := chk_inv hk
      refine ⟨_, _, _, h1, Loc.reads fun s2 hs2 β k2 => ?_⟩
      have e := (hs2 b (by simp)).trans hs
      simp only [doLoad, e, hc, chk, cond_true]
    · rename_i l q hs
      obtain ⟨hc, h1⟩ := chk_inv hk
      refine ⟨_, _, _, h1, Loc.reads fun s2 hs2 β k2 => ?_⟩
      have e := (hs2 b (by simp)).trans hs
      simp only [doLoad, e, hc, chk, cond_true]
    · rename_i e z l q hs
      split at hk
      · rename_i ei hei
        obtain ⟨hc, h1⟩ := chk_inv hk
        obtain ⟨h2, h3⟩ := norm_det h1
        obtain ⟨v, h4, h5⟩ := loadCells_det h2
        refine ⟨_, _, _, h4, Loc.reads fun s2 hs2 β k2 => ?_⟩
        have e := (hs2 b (by simp)).trans hs
        simp only [doLoad, e, hei, hc, chk, cond_true, h3, h5]
      · cases hk
    · cases hk
  · cases hk
theorem loc_doFieldAddr (q : Nat) (v : AV) : IsLoc (fun β s k => doFieldAddr ⟨sl, s⟩ q v k) := by
  unfold doFieldAddr
  split <;> first | exact IsLoc.ret _ | exact IsLoc.none
theorem loc_bytesOf (v : AV) : IsLoc (A := List UInt8) (fun β s k => bytesOf s v fun l fp => k l s fp) := by
  refine ⟨fun {α st k r} hk => ?_⟩
  unfold bytesOf at hk
  split at hk
  · exact ⟨_, _, _, hk, (Loc.ret _ _).congr fun s _ β k => by simp only [bytesOf]⟩
  · exact ⟨_, _, _, hk, (Loc.ret _ _).congr fun s _ β k => by simp only [bytesOf]⟩
  · rename_i b
    split at hk
    · rename_i e l q hs
      refine ⟨_, _, _, hk, Loc.reads fun s2 hs2 β k2 => ?_⟩
      have e := (hs2 b (by simp)).trans hs
      simp only [bytesOf, e]
    · cases hk
  · cases hk
theorem loc_elsOf (sz : Nat) (v : AV) : IsLoc (A := List AV) (fun β s k => elsOf sz s v fun l fp => k l s fp) := by
  refine ⟨fun {α st k r} hk => ?_⟩
  unfold elsOf at hk
  split at hk
  · obtain ⟨hc, h1⟩ := bif_inv hk
    exact ⟨_, _, _, h1, (Loc.ret _ _).congr fun s _ β k => by simp only [elsOf, hc, cond_true]⟩
  · exact ⟨_, _, _, hk, (Loc.ret _ _).congr fun s _ β k => by simp only [elsOf]⟩
  · rename_i b
    split at hk
    · rename_i e z l q hs
      obtain ⟨hc, h1⟩ := bif_inv hk
      refine ⟨_, _, _, h1, Loc.reads fun s2 hs2 β k2 => ?_⟩
      have e := (hs2 b (by simp)).trans hs
      simp only [elsOf, e, hc, cond_true]
    · cases hk
  · cases hk
theorem loc_lenOf (v : AV) : IsLoc (A := Nat) (fun β s k => lenOf s v fun l fp => k l s fp) := by
  refine ⟨fun {α st k r} hk => ?_⟩
  unfold lenOf at hk
  split at hk
  · exact ⟨_, _, _, hk, (Loc.ret _ _).congr fun s _ β k => by simp only [lenOf]⟩
  · exact ⟨_, _, _, hk, (Loc.ret _ _).congr fun s _ β k => by simp only [lenOf]⟩
  · exact ⟨_, _, _, hk, (Loc.ret _ _).congr fun s _ β k => by simp only [lenOf]⟩
  · exact ⟨_, _, _, hk, (Loc.ret _ _).congr fun s _ β k => by simp only [lenOf]⟩
  · rename_i b
    split at hk
    · rename_i e l q hs
      refine ⟨_, _, _, hk, Loc.reads fun s2 hs2 β k2 => ?_⟩
      have e := (hs2 b (by simp)).trans hs
      simp only [lenOf, e]
    · rename_i e z l q hs
      refine ⟨_, _, _, hk, Loc.reads fun s2 hs2 β k2 => ?_⟩
      have e := (hs2 b (by simp)).trans hs
      simp only [lenOf, e]
    · cases hk
  · cases hk
theorem loc_doLen (i : TI) (v : AV) : IsLoc (fun β s k => doLen ⟨sl, s⟩ i v k) := by
  unfold doLen
  split
  · cases v <;> first | exact IsLoc.ret _ | exact IsLoc.none
  · exact IsLoc.map (f := fun n : Nat => AV.int .i64 n) (loc_lenOf v)
  · exact IsLoc.none
theorem loc_doIndex (i : TI) (x ix : AV) : IsLoc (fun β s k => doIndex ⟨sl, s⟩ i x ix k) := by
  unfold doIndex
  split
  · exact (IsLoc.ret _).chk _
  · exact IsLoc.none
theorem loc_doConvert (s0 d : TI) (x : AV) : IsLoc (fun β s k => doConvert ⟨sl, s⟩ s0 d x k) := by
  unfold doConvert
  split
  · split <;> first | exact IsLoc.ret _ | exact IsLoc.none
  · split <;> first | exact IsLoc.ret _ | exact IsLoc.none
  · split
    · cases x <;> first | exact IsLoc.ret _ | exact IsLoc.none
    · exact IsLoc.map (f := fun l => AV.str l) (loc_bytesOf x)
    · exact IsLoc.none
  · split
    · cases x <;> first | exact IsLoc.ret _ | exact IsLoc.none
    · exact IsLoc.none
  · exact IsLoc.none
theorem loc_doIndexAddr (i : TI) (x ix : AV) : IsLoc (fun β s k => doIndexAddr E ⟨sl, s⟩ i x ix k) := by
  refine ⟨fun {α st k r} hk => ?_⟩
  unfold doIndexAddr at hk
  split at hk
  · rename_i e x n m hkd hm
    split at hk
    · obtain ⟨hc, h1⟩ := chk_inv hk
      exact ⟨_, _, _, h1, (Loc.ret _ _).congr fun s _ β k => by simp only [doIndexAddr, hkd, hm, hc, chk, cond_true]⟩
    · rename_i b
      split at hk
      · rename_i e l q hs
        obtain ⟨hc, h1⟩ := chk_inv hk
        refine ⟨_, _, _, h1, Loc.reads fun s2 hs2 β k2 => ?_⟩
        have e := (hs2 b (by simp)).trans hs
        simp only [doIndexAddr, hkd, hm, e, hc, chk, cond_true]
      · cases hk
    · cases hk
  · rename_i e x n m hkd hm
    split at hk
    · rename_i ei hei
      split at hk
      · obtain ⟨hc, h1⟩ := chk_inv hk
        obtain ⟨h2, h3⟩ := norm_det h1
        exact ⟨_, _, _, h2, (Loc.ret _ _).congr fun s _ β k => by simp only [doIndexAddr, hkd, hm, hei, hc, chk, cond_true, h3]⟩
      · rename_i b offs
        obtain ⟨hc, h1⟩ := chk_inv hk
        obtain ⟨o, h2, h3⟩ := pickP_det h1
        exact ⟨_, _, _, h2, (Loc.ret _ _).congr fun s _ β k => by simp only [doIndexAddr, hkd, hm, hei, hc, chk, cond_true, h3]⟩
      · rename_i b
        split at hk
        · rename_i e z l q hs
          obtain ⟨hc, h1⟩ := chk_inv hk
          refine ⟨_, _, _, h1, Loc.reads fun s2 hs2 β k2 => ?_⟩
          have e := (hs2 b (by simp)).trans hs
          simp only [doIndexAddr, hkd, hm, hei, e, hc, chk, cond_true]
        · cases hk
      · cases hk
    · cases hk
  · rename_i len e b m hkd hm
    split at hk
    · rename_i l q hs
      obtain ⟨hc, h1⟩ := chk_inv hk
      refine ⟨_, _, _, h1, Loc.reads fun s2 hs2 β k2 => ?_⟩
      have e := (hs2 b (by simp)).trans hs
      simp only [doIndexAddr, hkd, hm, e, hc, chk, cond_true]
    · cases hk
  · rename_i len e b off m hkd hm
    split at hk
    · rename_i ei hei
      obtain ⟨hc, h1⟩ := chk_inv hk
      exact ⟨_, _, _, h1, (Loc.ret _ _).congr fun s _ β k => by simp only [doIndexAddr, hkd, hm, hei, hc, chk, cond_true]⟩
    · cases hk
  · rename_i len e cs m hkd hm
    split at hk
    · rename_i ei hei
      obtain ⟨hc, h1⟩ := chk_inv hk
      obtain ⟨h2, h3⟩ := norm_det h1
      exact ⟨_, _, _, h2, (Loc.ret _ _).congr fun s _ β k => by simp only [doIndexAddr, hkd, hm, hei, hc, chk, cond_true, h3]⟩
    · cases hk
  · cases hk
end
end Go.Abs
