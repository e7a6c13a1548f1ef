/- Cuts, appends, literals. -/
import Derived.Test.YtilkpebjgmkbmaaGreatAbsOps5
namespace Go.Abs
set_option linter.unusedVariables false
section
variable {P : Program} {B : Nat} {M : Nat → Prop} {w0 : World} {p0 : Prot} {w : World} {p : Prot} {g : Nat → Value}
theorem bound_inv {u : Nat → Prop} {lo : Option AV} {xl : Option Value} {d : Nat} (hl : (lo = none ∧ xl = none) ∨ ∃ a x, lo = some a ∧ xl = some x ∧ RepV w p g u x a) {n : Int} (h : bound lo d = some n) :
    (xl = none ∧ n = d) ∨ ∃ k, xl = some (.int k n) := by
  rcases hl with ⟨rfl, rfl⟩ | ⟨a, x, rfl, rfl, hr⟩
  · simp [bound] at h; exact .inl ⟨rfl, h.symm⟩
  · obtain ⟨k, rfl⟩ := idx_inv hr h
    exact .inr ⟨k, rfl⟩
theorem run_bounds {isS : Bool} {len cap : Nat} {xl xh : Option Value} {a b : Int} (hlo : (xl = none ∧ a = (0 : Nat)) ∨ ∃ k, xl = some (.int k a)) (hhi : (xh = none ∧ b = (len : Int)) ∨ ∃ k, xh = some (.int k b))
    (h0 : 0 ≤ a) (hab : a ≤ b) (hb : b ≤ len) (hc : len ≤ cap) : (Instr.sliceBounds isS len cap xl xh none).run P w = .ok (a.toNat, b.toNat, cap) w := by
  have e1 : 0 ≤ b ∧ b ≤ (cap : Int) := ⟨by omega, by omega⟩
  have e2 : 0 ≤ a ∧ a ≤ ((b.toNat : Nat) : Int) := ⟨h0, by omega⟩
  rcases hhi with ⟨rfl, rfl⟩ | ⟨kb, rfl⟩
  · rcases hlo with ⟨rfl, rfl⟩ | ⟨ka, rfl⟩
    · simp [Instr.sliceBounds]
    · have e3 : 0 ≤ a ∧ a ≤ (len : Int) := ⟨h0, hab⟩
      simp [Instr.sliceBounds, Instr.sliceBound, asIntOf, e3]
  · rcases hlo with ⟨rfl, rfl⟩ | ⟨ka, rfl⟩
    · simp [Instr.sliceBounds, Instr.sliceBound, asIntOf, e1]
    · simp [Instr.sliceBounds, Instr.sliceBound, asIntOf, e1, e2]
      intro hh
      omega
theorem cut_get {β : Type} (l : List β) (a b i : Nat) : ((l.take b).drop a)[i]? = if a + i < b then l[a + i]? else none := by
  rw [List.getElem?_drop, List.getElem?_take]
theorem cut_length {β : Type} (l : List β) {a b : Nat} (h : b ≤ l.length) : ((l.take b).drop a).length = b - a := by
  rw [List.length_drop, List.length_take]; omega
theorem cut_bs {x : Value} {l : List UInt8} (h : RepI w p x (.bs l)) {a b : Nat} (hab : a ≤ b) (hb : b ≤ l.length) : ∃ ad len cap, x = .slice ad len cap ∧ len = l.length ∧ len ≤ cap ∧
    RepI w p (.slice (if cap = a then ad else ad.map (·.add (a * 1))) (b - a) (cap - a)) (.bs ((l.take b).drop a)) := by
  cases h with
  | bs β off hl hc ha hcell =>
    rename_i ad len cap
    refine ⟨ad, len, cap, rfl, hl.symm, hc, ?_⟩
    refine .bs β (off + a) (cut_length l hb) (by omega) ?_ fun i c hi => ?_
    · by_cases h0 : b - a = 0
      · exact .inl h0
      · right
        rw [if_neg (by omega)]
        rcases ha with ha | rfl
        · omega
        · simp [addr_add]
    · rw [cut_get] at hi
      split at hi
      · have := hcell _ _ hi
        rw [Nat.add_assoc]
        exact this
      · cases hi
theorem flat_drop {sz : Nat} {els : List AV} (hs : ∀ x ∈ els, x.cells.length = sz) : ∀ (n : Nat), (els.drop n).flatMap AV.cells = (els.flatMap AV.cells).drop (n * sz) := by
  induction els with
  | nil => simp
  | cons y r ih =>
    intro n
    cases n with
    | zero => simp
    | succ n =>
      have hy := hs y (by simp)
      have e1 : y.cells.drop ((n + 1) * sz) = [] := List.drop_of_length_le (by rw [hy, Nat.add_mul]; omega)
      rw [List.drop_succ_cons, ih (fun z hz => hs z (by simp [hz])), List.flatMap_cons, List.drop_append, e1]
      rw [show (n + 1) * sz - y.cells.length = n * sz by rw [hy, Nat.add_mul]; omega]
      simp
theorem flat_take {sz : Nat} {els : List AV} (hs : ∀ x ∈ els, x.cells.length = sz) : ∀ (n : Nat), (els.take n).flatMap AV.cells = (els.flatMap AV.cells).take (n * sz) := by
  induction els with
  | nil => simp
  | cons y r ih =>
    intro n
    cases n with
    | zero => simp
    | succ n =>
      have hy := hs y (by simp)
      have e1 : y.cells.take ((n + 1) * sz) = y.cells := List.take_of_length_le (by rw [hy, Nat.add_mul]; omega)
      rw [List.take_succ_cons, List.flatMap_cons, ih (fun z hz => hs z (by simp [hz])), List.flatMap_cons, List.take_append, e1]
      rw [show (n + 1) * sz - y.cells.length = n * sz by rw [hy, Nat.add_mul]; omega]
theorem cut_sl {x : Value} {sz : Nat} {l : List AV} (h : RepI w p x (.sl sz l)) {a b : Nat} (hab : a ≤ b) (hb : b ≤ l.length) : ∃ ad len cap, x = .slice ad len cap ∧ len = l.length ∧ len ≤ cap ∧
    RepI w p (.slice (if cap = a then ad else ad.map (·.add (a * sz))) (b - a) (cap - a)) (.sl sz ((l.take b).drop a)) := by
  cases h with
  | sl β off vs hl hc hsz ha hcell hr =>
    rename_i ad len cap
    refine ⟨ad, len, cap, rfl, hl.symm, hc, ?_⟩
    have hst : ∀ x ∈ l.take b, x.cells.length = sz := fun x hx => hsz x (List.mem_of_mem_take hx)
    have hget : ∀ j c, (((l.take b).drop a).flatMap AV.cells)[j]? = some c → (l.flatMap AV.cells)[a * sz + j]? = some c := fun j c hj => by
      rw [flat_drop hst, flat_take hsz, List.getElem?_drop, List.getElem?_take] at hj
      split at hj
      · exact hj
      · cases hj
    refine .sl β (off + a * sz) (fun j => vs (a * sz + j)) (cut_length l hb) (by omega) (fun x hx => hst x (List.mem_of_mem_drop hx)) ?_ (fun j c hj => ?_) (fun j c hj => hr _ c (hget j c hj))
    · by_cases h0 : b - a = 0
      · exact .inl h0
      · right
        rw [if_neg (by omega)]
        rcases ha with ha | rfl
        · omega
        · simp [addr_add]
    · have := hcell _ _ (hget j c hj)
      rw [Nat.add_assoc]
      exact this
def OptRep (w : World) (p : Prot) (g : Nat → Value) (u : Nat → Prop) (xl : Option Value) (lo : Option AV) : Prop := (lo = none ∧ xl = none) ∨ ∃ a x, lo = some a ∧ xl = some x ∧ RepV w p g u x a
theorem run_bounds3 {isS : Bool} {len cap : Nat} {xl : Option Value} {a b c : Int} {kb kc : IntKind} (hlo : (xl = none ∧ a = (0 : Nat)) ∨ ∃ k, xl = some (.int k a))
    (h0 : 0 ≤ a) (hab : a ≤ b) (hbc : b ≤ c) (hb : c ≤ cap) : (Instr.sliceBounds isS len cap xl (some (.int kb b)) (some (.int kc c))).run P w = .ok (a.toNat, b.toNat, c.toNat) w := by
  have e1 : 0 ≤ c ∧ c ≤ (cap : Int) := ⟨by omega, by omega⟩
  have e2 : 0 ≤ b ∧ b ≤ ((c.toNat : Nat) : Int) := ⟨by omega, by omega⟩
  have e3 : 0 ≤ a ∧ a ≤ ((b.toNat : Nat) : Int) := ⟨h0, by omega⟩
  have e4 : 0 ≤ b ∧ b ≤ max c 0 := ⟨by omega, by omega⟩
  have e5 : 0 ≤ a ∧ a ≤ max b 0 := ⟨by omega, by omega⟩
  rcases hlo with ⟨rfl, rfl⟩ | ⟨ka, rfl⟩
  · simp [Instr.sliceBounds, Instr.sliceBound, asIntOf, e1, e2, e4]
  · simp [Instr.sliceBounds, Instr.sliceBound, asIntOf, e1, e2, e3, e4, e5]
theorem sim_slice3 {α : Type} {fr : Fr} {t : Nat} {i : TI} (hi : mkTI P t = some i) (h : SInv B M w0 p0 w p g fr.st) {x xh xm : Value} {v hi' m : AV} {xl : Option Value} {lo : Option AV} (hx : RepV w p g (used fr.st) x v)
    (hlo : OptRep w p g (used fr.st) xl lo) (hhi : RepV w p g (used fr.st) xh hi') (hm' : RepV w p g (used fr.st) xm m) {k : Ret α} {r : α} (hk : doSlice3 fr i v lo hi' m k = some r) :
    ∃ v' st' fp, k v' st' fp = some r ∧ Good B M w0 p0 w p g fr.st v' st' ((Instr.sliceAt t x xl (some xh) (some xm)).run P w) := by
  obtain ⟨info, z, a1, a2, a3, a4, a5, a6, a7, a8, a9, _⟩ := mkTI_info hi
  unfold doSlice3 at hk
  split at hk
  · rename_i e hkd
    rw [hkd] at a8
    obtain ⟨hu, hb8⟩ := kind_slice a8
    obtain ⟨hue, ei, he1, he2, he3, he4⟩ := isU8_iff hb8.symm
    obtain ⟨v1, st1, f1, p1, hk1, hs1, hm1, hr1⟩ := sim_out1 h hx hk
    obtain ⟨l, rfl, hk2⟩ := onBs_inv hk1
    split at hk2
    · rename_i a b c ha hb hcc
      obtain ⟨hc, hk3⟩ := chk_inv hk2
      simp only [Bool.and_eq_true, decide_eq_true_eq] at hc
      obtain ⟨⟨⟨h0, hab⟩, hbc⟩, hcl⟩ := hc
      have hb1 := bound_inv hlo ha
      obtain ⟨kb, rfl⟩ := idx_inv hhi hb
      obtain ⟨kc, rfl⟩ := idx_inv hm' hcc
      cases hr1 with
      | bs β off hl hcap ha' hcell =>
        rename_i ad len cap
        have hrun := run_bounds3 (P := P) (w := w) (isS := true) (len := len) (cap := cap) (kb := kb) (kc := kc) hb1 h0 hab hbc (by omega)
        refine ⟨_, _, _, hk3, .slice (if c.toNat = a.toNat then ad else ad.map (·.add (a.toNat * 1))) (b.toNat - a.toNat) (c.toNat - a.toNat), w, p1, g, ?_, hs1, hm1, RepI.v ?_⟩
        · simp [Instr.sliceAt, Instr.slice, run_underlying hu, hrun, run_sizeOf he1, he2]
        · refine .bs β (off + a.toNat) (cut_length l (by omega)) (by omega) ?_ fun i c hi => ?_
          · by_cases hz : b.toNat - a.toNat = 0
            · exact .inl hz
            · right
              rw [if_neg (by omega)]
              rcases ha' with ha' | rfl
              · omega
              · simp [addr_add]
          · rw [cut_get] at hi
            split at hi
            · have := hcell _ _ hi
              rw [Nat.add_assoc]
              exact this
            · cases hi
    · cases hk2
  · cases hk
theorem sim_view {α : Type} {fr : Fr} {t : Nat} {i : TI} (hi : mkTI P t = some i) (h : SInv B M w0 p0 w p g fr.st) {x : Value} {v : AV} {xl xh : Option Value} {lo hi' : Option AV} (hx : RepV w p g (used fr.st) x v)
    (hlo : OptRep w p g (used fr.st) xl lo) (hhi : OptRep w p g (used fr.st) xh hi') {k : Ret α} {r : α} (hk : doView fr i v lo hi' k = some r) :
    ∃ v' st' fp, k v' st' fp = some r ∧ Good B M w0 p0 w p g fr.st v' st' ((Instr.sliceAt t x xl xh none).run P w) := by
  obtain ⟨info, z, a1, a2, a3, a4, a5, a6, a7, a8, a9, _⟩ := mkTI_info hi
  unfold doView at hk
  split at hk
  · rename_i e rr hkd
    rw [hkd] at a8
    obtain ⟨hu, hb8⟩ := kind_slice a8
    obtain ⟨hue, ei, he1, he2, he3, he4⟩ := isU8_iff hb8.symm
    obtain ⟨hur, rfl, hgs⟩ := hx.row
    have hbk := h.blk rr
    split at hk
    · rename_i e' l pub hst
      rw [hst] at hbk
      obtain ⟨⟨hlen, hrow⟩, hpp⟩ := hbk
      have key : 0 < l.length → ∃ β cap, g rr = .slice (some ⟨β, 0, none⟩) l.length cap ∧ l.length ≤ cap := fun h0 => by
        rcases hrow with ⟨hn, _⟩ | ⟨β, cap, cur, hv, _, _, _, hnc, _⟩
        · omega
        · exact ⟨β, cap, hv, hnc⟩
      split at hk
      · rename_i hv'
        split at hk
        · rename_i b hb
          obtain ⟨hc, hk3⟩ := chk_inv hk
          simp only [Bool.and_eq_true, decide_eq_true_eq] at hc
          obtain ⟨⟨⟨h0, hbl⟩, hpos⟩, _⟩ := hc
          obtain ⟨β, cap, hg, hnc⟩ := key (Nat.le_of_ble_eq_true hpos)
          have hb1 := bound_inv (d := 0) (n := ((0 : Nat) : Int)) hlo rfl
          have hb2 := bound_inv (d := l.length) hhi hb
          have hrun := run_bounds (P := P) (w := w) (isS := true) (len := l.length) (cap := cap) hb1 hb2 (by omega) (by omega) hbl hnc
          refine ⟨_, _, _, hk3, Good.same h (v' := .slice (some ⟨β, 0, none⟩) b.toNat cap) ?_ (RepC.v (.pre hur hg (by omega)))⟩
          rw [hg]
          have hrun' : (Instr.sliceBounds true l.length cap xl xh none).run P w = .ok (0, b.toNat, cap) w := by simpa using hrun
          have he : (if cap = 0 then some (⟨β, 0, none⟩ : Addr) else some (Addr.add ⟨β, 0, none⟩ 0)) = some ⟨β, 0, none⟩ := by split <;> simp [addr_add]
          simp [Instr.sliceAt, Instr.slice, run_underlying hu, hrun', run_sizeOf he1, he2, he]
        · cases hk
      · rename_i av
        split at hk
        · rename_i a ha
          obtain ⟨hc, hk3⟩ := chk_inv hk
          simp only [Bool.and_eq_true, decide_eq_true_eq] at hc
          obtain ⟨⟨⟨h0, hal⟩, hpos⟩, _⟩ := hc
          obtain ⟨β, cap, hg, hnc⟩ := key (Nat.le_of_ble_eq_true hpos)
          have hb1 := bound_inv (d := 0) hlo ha
          have hb2 := bound_inv (d := l.length) (n := (l.length : Int)) hhi rfl
          have hrun := run_bounds (P := P) (w := w) (isS := true) (len := l.length) (cap := cap) hb1 hb2 h0 hal (Int.le_refl _) hnc
          refine ⟨_, _, _, hk3, Good.same h (v' := .slice (if cap = a.toNat then some ⟨β, 0, none⟩ else some ⟨β, a.toNat, none⟩) (l.length - a.toNat) (cap - a.toNat)) ?_ (RepC.v (.suf hur hg (by omega) ?_))⟩
          · rw [hg]
            have hrun' : (Instr.sliceBounds true l.length cap xl xh none).run P w = .ok (a.toNat, l.length, cap) w := by simpa using hrun
            simp [Instr.sliceAt, Instr.slice, run_underlying hu, hrun', run_sizeOf he1, he2, addr_add]
          · by_cases e : cap = a.toNat
            · exact .inl (by omega)
            · rw [if_neg e]; exact .inr rfl
        · cases hk
      · cases hk
    · cases hk
  · cases hk
theorem sim_slice {α : Type} {E : Env} (hty : ∀ t i, E.ty t = some i → mkTI P t = some i) {fr : Fr} {t : Nat} {i : TI} (hi : mkTI P t = some i) (h : SInv B M w0 p0 w p g fr.st) {x : Value} {v : AV} {xl xh : Option Value} {lo hi' : Option AV} (hx : RepV w p g (used fr.st) x v)
    (hlo : OptRep w p g (used fr.st) xl lo) (hhi : OptRep w p g (used fr.st) xh hi') {k : Ret α} {r : α} (hk : doSlice E fr i v lo hi' none k = some r) :
    ∃ v' st' fp, k v' st' fp = some r ∧ Good B M w0 p0 w p g fr.st v' st' ((Instr.sliceAt t x xl xh none).run P w) := by
  obtain ⟨info, z, a1, a2, a3, a4, a5, a6, a7, a8, a9, _⟩ := mkTI_info hi
  unfold doSlice at hk
  simp only at hk
  split at hk
  · -- a string
    rename_i hkd
    rw [hkd] at a8
    have hu := kind_str a8
    obtain ⟨l, rfl, hk2⟩ := onStr_inv hk
    obtain ⟨s, rfl, rfl⟩ := hx.str
    split at hk2
    · rename_i a b ha hb
      obtain ⟨hc, hk3⟩ := chk_inv hk2
      simp only [Bool.and_eq_true, decide_eq_true_eq] at hc
      obtain ⟨⟨h0, hab⟩, hbl⟩ := hc
      have hbl' : b ≤ (s.size : Int) := by simpa using hbl
      have hb1 := bound_inv hlo ha
      have hb2 := bound_inv hhi hb
      have hb2' : (xh = none ∧ b = (s.size : Int)) ∨ ∃ k, xh = some (.int k b) := by simpa using hb2
      have hrun := run_bounds (P := P) (w := w) (isS := false) (cap := s.size) hb1 hb2' h0 hab hbl' (Nat.le_refl _)
      refine ⟨_, _, _, hk3, Good.same h (v' := .string (s.extract a.toNat b.toNat)) ?_ (RepI.v (.str ?_))⟩
      · simp [Instr.sliceAt, Instr.slice, run_underlying hu, hrun]
      · simp [ByteArray.data_extract, Array.toList_extract, List.extract_eq_take_drop]
        rw [List.drop_take]
    · cases hk2
  · -- bytes
    rename_i e hkd
    rw [hkd] at a8
    obtain ⟨hu, hb8⟩ := kind_slice a8
    obtain ⟨hue, ei, he1, he2, he3, he4⟩ := isU8_iff hb8.symm
    obtain ⟨v1, st1, f1, p1, hk1, hs1, hm1, hr1⟩ := sim_out1 h hx hk
    obtain ⟨l, rfl, hk2⟩ := onBs_inv hk1
    split at hk2
    · rename_i a b ha hb
      obtain ⟨hc, hk3⟩ := chk_inv hk2
      simp only [Bool.and_eq_true, decide_eq_true_eq] at hc
      obtain ⟨⟨h0, hab⟩, hbl⟩ := hc
      obtain ⟨ad, len, cap, rfl, hlen, hcap, hrep⟩ := cut_bs hr1 (a := a.toNat) (b := b.toNat) (by omega) (by omega)
      have hb1 := bound_inv hlo ha
      have hb2 := bound_inv hhi hb
      rw [← hlen] at hb2 hbl
      have hrun := run_bounds (P := P) (w := w) (isS := true) hb1 hb2 h0 hab hbl hcap
      refine ⟨_, _, _, hk3, _, w, p1, g, ?_, hs1, hm1, RepI.v hrep⟩
      simp [Instr.sliceAt, Instr.slice, run_underlying hu, hrun, run_sizeOf he1, he2]
    · cases hk2
  · -- other elements
    rename_i e hkd
    rw [hkd] at a8
    obtain ⟨hu, hb8⟩ := kind_slice a8
    split at hk
    · rename_i ei hei
      obtain ⟨info', z', b1, b2, b3, b4, b5, b6, b7, b8, b9, _⟩ := mkTI_info (hty _ _ hei)
      obtain ⟨v1, st1, f1, p1, hk1, hs1, hm1, hr1⟩ := sim_out1 h hx hk
      obtain ⟨l, rfl, hk2⟩ := onSl_inv hk1
      split at hk2
      · rename_i a b ha hb
        obtain ⟨hc, hk3⟩ := chk_inv hk2
        simp only [Bool.and_eq_true, decide_eq_true_eq] at hc
        obtain ⟨⟨h0, hab⟩, hbl⟩ := hc
        obtain ⟨ad, len, cap, rfl, hlen, hcap, hrep⟩ := cut_sl hr1 (a := a.toNat) (b := b.toNat) (by omega) (by omega)
        have hb1 := bound_inv hlo ha
        have hb2 := bound_inv hhi hb
        rw [← hlen] at hb2 hbl
        have hrun := run_bounds (P := P) (w := w) (isS := true) hb1 hb2 h0 hab hbl hcap
        refine ⟨_, _, _, hk3, _, w, p1, g, ?_, hs1, hm1, RepI.v hrep⟩
        simp [Instr.sliceAt, Instr.slice, run_underlying hu, hrun, run_sizeOf b1, b2]
      · cases hk2
    · cases hk
  · -- an array of bytes
    rename_i n e hkd
    rw [hkd] at a8
    obtain ⟨hu, hb8⟩ := kind_arr a8
    obtain ⟨hue, ei, he1, he2, he3, he4⟩ := isU8_iff hb8.symm
    split at hk
    · rename_i b
      obtain ⟨hub, β, hg, rfl⟩ := hx.ptr
      have hbk := h.blk b
      split at hk
      · rename_i l pub hst
        rw [hst] at hbk
        obtain ⟨β', c, e', h1, h2, h3, h4, h5, h6⟩ := hbk
        have hbe : β' = β := by rw [h1] at hg; cases hg; rfl
        subst hbe
        split at hk
        · rename_i a c' ha hb
          obtain ⟨hc, hk3⟩ := chk_inv hk
          simp only [Bool.and_eq_true, decide_eq_true_eq] at hc
          obtain ⟨⟨⟨h0, hab⟩, hbl⟩, hln⟩ := hc
          have hln' := Nat.eq_of_beq_eq_true hln
          subst hln'
          have hb1 := bound_inv hlo ha
          have hb2 := bound_inv hhi hb
          have hrun := run_bounds (P := P) (w := w) (isS := false) (len := l.length) (cap := l.length) hb1 hb2 h0 hab hbl (Nat.le_refl _)
          have hvb : vblk (g b) = some β' := by rw [h1]; rfl
          obtain ⟨hs, hm⟩ := h.relabel (k := b) (b := .barr l true) (p' := raise p (vblk (g b)) l.length) (by rw [hst]; trivial) trivial (fun β hv => raise_ne hv)
            (fun β hv => by rw [raise_same hv]; rw [hvb] at hv; cases hv; exact h5) (fun β hv hlt => by rw [hvb] at hv; cases hv; omega)
            (fun hm => ⟨β', c, e', h1, h2, h3, h4, by rw [raise_same hvb]; exact Nat.le_refl _, fun e => by cases e⟩)
          have hbs : RepI w (raise p (vblk (g b)) l.length) (.slice (some ⟨β', 0, none⟩) l.length l.length) (.bs l) := .bs β' 0 rfl (Nat.le_refl _) (.inr rfl) fun i b hi => ⟨by
            rw [raise_same hvb]
            have := (List.getElem?_eq_some_iff.1 hi).1
            omega, by
            rw [cell_heap h3]
            have h1' : (l.map u8v)[i]? = some (u8v b) := by simp [hi]
            rw [← h4] at h1'
            simpa using h1'⟩
          obtain ⟨ad, len, cap, heq, hlen, hcap, hrep⟩ := cut_bs hbs (a := a.toNat) (b := c'.toNat) (by omega) (by omega)
          cases heq
          refine ⟨_, _, _, hk3, _, w, _, g, ?_, hs, hm, RepI.v hrep⟩
          simp [Instr.sliceAt, run_underlying hu, hrun, run_sizeOf he1, he2, Instr.sureAddr]
          split <;> rfl
        · cases hk
      · cases hk
    · cases hk
  · cases hk
end
end Go.Abs
