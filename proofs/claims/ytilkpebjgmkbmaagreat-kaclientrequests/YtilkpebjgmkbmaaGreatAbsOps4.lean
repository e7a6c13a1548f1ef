/- Values that go out of a frame; stores. -/
import Derived.Test.YtilkpebjgmkbmaaGreatAbsOps3
namespace Go.Abs
set_option linter.unusedVariables false
section
variable {P : Program} {B : Nat} {M : Nat → Prop} {w0 : World} {p0 : Prot} {w : World} {p : Prot} {g : Nat → Value}
theorem SInv.relabel {st : Nat → Blk} (h : SInv B M w0 p0 w p g st) {k : Nat} {b : Blk} {p' : Prot} (hk : (st k).live) (hb : b.live) (hp : ∀ β, vblk (g k) ≠ some β → p' β = p β)
    (hle : ∀ β, vblk (g k) = some β → p β ≤ p' β) (hB0 : ∀ β, vblk (g k) = some β → β < B → M β ∧ p' β = p β)
    (hB : Mono w p g (used st) w p' g (used (upd st k b)) → BlkOK w p' g (used (upd st k b)) B M k b) :
    SInv B M w0 p0 w p' g (upd st k b) ∧ Mono w p g (used st) w p' g (used (upd st k b)) := by
  have hbf : b ≠ .free := fun e => by rw [e] at hb; exact hb
  have hu : ∀ j, used st j → used (upd st k b) j := fun j hj => used_upd hbf hj
  have hprot : ∀ β, p β ≤ p' β := fun β => by
    by_cases e : vblk (g k) = some β
    · exact hle β e
    · rw [hp β e]; exact Nat.le_refl _
  refine h.change rfl rfl rfl (Nat.le_refl _) (fun j => j = k) (fun β => vblk (g k) = some β) (fun j hj => upd_ne _ _ hj) hu (fun _ _ => rfl) (fun β _ hd => ⟨rfl, hp β hd⟩) (fun β hd hlB => hB0 β hd hlB) hprot (fun _ _ _ => rfl) ?_ ?_ ?_ ?_
  · intro β hβ
    rw [hp β (fun e => by have := (h.blk k).vblk_lt hk e; omega)]
    exact h.newp β hβ
  · intro j β hj hl hv hd
    exact h.dist j k β hj hl hk hv hd
  · rintro j rfl
    rw [upd_same]
    exact hB ⟨hprot, fun _ _ _ => rfl, fun _ _ => rfl, hu⟩
  · rintro j j' β rfl hne _ hl' hva hvb
    rw [upd_ne _ _ hne] at hl'
    exact h.dist j j' β (Ne.symm hne) hk hl' hva hvb
def raise (p : Prot) (o : Option Nat) (n : Nat) : Prot := fun β => if o = some β then n else p β
theorem raise_same {p : Prot} {o : Option Nat} {n β : Nat} (h : o = some β) : raise p o n β = n := by simp [raise, h]
theorem raise_ne {p : Prot} {o : Option Nat} {n β : Nat} (h : o ≠ some β) : raise p o n β = p β := by simp [raise, h]
theorem publishB {st : Nat → Blk} (h : SInv B M w0 p0 w p g st) {k e : Nat} {l : List UInt8} {pub : Bool} (hk : st k = .rowB e l pub) :
    ∃ p', SInv B M w0 p0 w p' g (upd st k (.rowB e l true)) ∧ Mono w p g (used st) w p' g (used (upd st k (.rowB e l true))) ∧ RepI w p' (g k) (.bs l) := by
  have hb := h.blk k
  rw [hk] at hb
  obtain ⟨hrow, hp⟩ := hb
  have hB : ∀ β, vblk (g k) = some β → B ≤ β := fun β hv => by
    obtain ⟨_, ⟨_, a, hg⟩ | ⟨β', cap, cur, hg, h0, hB, _⟩⟩ := hrow
    · rw [hg] at hv; cases a <;> simp [vblk] at hv
    · rw [hg] at hv; have : β' = β := by simp [vblk] at hv; exact hv.2
      omega
  obtain ⟨hs, hm⟩ := h.relabel (k := k) (b := .rowB e l true) (p' := raise p (vblk (g k)) l.length) (by rw [hk]; trivial) trivial (fun β hv => raise_ne hv)
    (fun β hv => by rw [raise_same hv]; exact (hp β hv).1) (fun β hv hlt => by have := hB β hv; omega)
    (fun hm => ⟨hrow, fun β hv => ⟨by rw [raise_same hv]; exact Nat.le_refl _, fun e => by cases e⟩⟩)
  refine ⟨_, hs, hm, ?_⟩
  obtain ⟨hlen, ⟨hn, a, hg⟩ | ⟨β, cap, cur, hg, h0, hB', hh, hnc, hcm, hcs, htake⟩⟩ := hrow
  · have : l = [] := List.eq_nil_of_length_eq_zero hn
    subst this
    rw [hg]
    exact .bs 0 0 rfl (Nat.le_refl _) (.inl rfl) (fun i b hi => by simp at hi)
  · rw [hg]
    refine .bs β 0 rfl hnc (.inr rfl) fun i b hi => ⟨?_, ?_⟩
    · rw [raise_same (by simp [vblk]; omega)]
      have := (List.getElem?_eq_some_iff.1 hi).1
      omega
    · rw [cell_heap hh]
      have h1 : (l.map u8v)[i]? = some (u8v b) := by simp [hi]
      rw [← htake, List.getElem?_take] at h1
      split at h1
      · simpa using h1
      · cases h1
theorem publishL {st : Nat → Blk} (h : SInv B M w0 p0 w p g st) {k e z : Nat} {l : List AV} {pub : Bool} (hk : st k = .rowL e z l pub) :
    ∃ p', SInv B M w0 p0 w p' g (upd st k (.rowL e z l true)) ∧ Mono w p g (used st) w p' g (used (upd st k (.rowL e z l true))) ∧ RepI w p' (g k) (.sl z l) := by
  have hb := h.blk k
  rw [hk] at hb
  obtain ⟨hz, hsz, vs, hrow, hcells, hp⟩ := hb
  have hB : ∀ β, vblk (g k) = some β → B ≤ β := fun β hv => by
    obtain ⟨_, ⟨_, a, hg⟩ | ⟨β', cap, cur, hg, h0, hB, _⟩⟩ := hrow
    · rw [hg] at hv; cases a <;> simp [vblk] at hv
    · rw [hg] at hv; have : β' = β := by simp [vblk] at hv; exact hv.2
      omega
  obtain ⟨hs, hm⟩ := h.relabel (k := k) (b := .rowL e z l true) (p' := raise p (vblk (g k)) (l.length * z)) (by rw [hk]; trivial) trivial (fun β hv => raise_ne hv)
    (fun β hv => by rw [raise_same hv]; exact (hp β hv).1) (fun β hv hlt => by have := hB β hv; omega)
    (fun hm => ⟨hz, hsz, vs, hrow, hcells.imp fun _ _ => hm.repI, fun β hv => ⟨by rw [raise_same hv]; exact Nat.le_refl _, fun e => by cases e⟩⟩)
  refine ⟨_, hs, hm, ?_⟩
  have hfl := flat_length hsz
  obtain ⟨hlen, ⟨hn, a, hg⟩ | ⟨β, cap, cur, hg, h0, hB', hh, hnc, hcm, hcs, htake⟩⟩ := hrow
  · have : l = [] := List.eq_nil_of_length_eq_zero hn
    subst this
    rw [hg]
    exact .sl 0 0 (fun _ => undef) rfl (Nat.le_refl _) (fun _ h => by cases h) (.inl rfl) (fun i b hi => by simp at hi) (fun i b hi => by simp at hi)
  · have hc' := hcells.imp fun v c hvc => hm.repI hvc
    rw [hg] at hc' ⊢
    refine .sl β 0 (fun j => vs.getD j undef) rfl hnc hsz (.inr rfl) (fun j c hj => ⟨?_, ?_⟩) (fun j c hj => ?_)
    · rw [raise_same (by simp [vblk]; omega)]
      have := (List.getElem?_eq_some_iff.1 hj).1
      omega
    · obtain ⟨v, hv, _⟩ := hc'.get hj
      rw [cell_heap hh]
      have h1 := hv
      rw [← htake, List.getElem?_take] at h1
      split at h1
      · simp [hv]; simpa using h1
      · cases h1
    · obtain ⟨v, hv, hr⟩ := hc'.get hj
      simp [hv]
      exact hr
def RepO (w : World) (p : Prot) (v : Value) (a : AV) : Prop := RepI w p v a ∨ ∃ arr cs, v = .agg arr ∧ a = .agg cs ∧ Cells (RepI w p) arr.toList cs
theorem RepO.v {u : Nat → Prop} {v : Value} {a : AV} (h : RepO w p v a) : RepV w p g u v a := by
  rcases h with h | ⟨arr, cs, rfl, rfl, h⟩
  · exact h.v
  · exact .inr (.inl (.inr ⟨arr, cs, rfl, rfl, h.imp fun _ _ => .imm⟩))
theorem RepO.mono {w' : World} {p' : Prot} (hp : ∀ β, p β ≤ p' β) (hc : ∀ β i, i < p β → w'.cell? ⟨β, i, none⟩ = w.cell? ⟨β, i, none⟩) {v : Value} {a : AV} (h : RepO w p v a) : RepO w' p' v a := by
  rcases h with h | ⟨arr, cs, rfl, rfl, h⟩
  · exact .inl (h.mono hp hc)
  · exact .inr ⟨arr, cs, rfl, rfl, h.imp fun _ _ hh => hh.mono hp hc⟩
theorem RepO.cells {v : Value} {a : AV} (h : RepO w p v a) : Cells (RepI w p) v.cells.toList a.cells := by
  rcases h with h | ⟨arr, cs, rfl, rfl, h⟩
  · rw [h.cell1.1, h.cell1.2.2.1]; exact .cons h .nil
  · exact h
theorem repC_cell {u : Nat → Prop} {x : Value} {v : AV} (h : RepC w p g u x v) : RepV w p g u x v := h.v
def Pres (st st' : Nat → Blk) : Prop := ∀ b cs, st b = .cells cs → st' b = .cells cs
theorem Pres.refl {st : Nat → Blk} : Pres st st := fun _ _ h => h
theorem Pres.trans {a b c : Nat → Blk} (h : Pres a b) (k : Pres b c) : Pres a c := fun x cs hx => k x cs (h x cs hx)
theorem Pres.upd {st : Nat → Blk} {r : Nat} {x : Blk} (h : ∀ cs, st r ≠ .cells cs) : Pres st (Abs.upd st r x) := fun b cs hb => by
  rw [upd_ne _ _ (fun e => by subst e; exact h cs hb)]; exact hb
theorem sim_out1' {α : Type} {st : Nat → Blk} (h : SInv B M w0 p0 w p g st) {c : CT} {x : Value} {v : AV} (hx : RepV w p g (used st) x v) {k : AV → (Nat → Blk) → FP → Option α} {r : α} (hk : out1 c v st k = some r) :
    ∃ a st' fp p', k a st' fp = some r ∧ SInv B M w0 p0 w p' g st' ∧ Mono w p g (used st) w p' g (used st') ∧ RepI w p' x a ∧ Pres st st' := by
  unfold out1 at hk
  split at hk
  · obtain ⟨a, rfl⟩ := hx.nils
    exact ⟨_, _, _, p, hk, h, Mono.refl, .bs 0 0 rfl (Nat.le_refl _) (.inl rfl) (fun i b hi => by simp at hi), Pres.refl⟩
  · obtain ⟨a, rfl⟩ := hx.nils
    exact ⟨_, _, _, p, hk, h, Mono.refl, .sl 0 0 (fun _ => undef) rfl (Nat.le_refl _) (fun _ h => by cases h) (.inl rfl) (fun i b hi => by simp at hi) (fun i b hi => by simp at hi), Pres.refl⟩
  · rename_i r'
    obtain ⟨hu, rfl, _⟩ := hx.row
    split at hk
    · rename_i e l pub hst
      obtain ⟨p', hs, hm, hr⟩ := publishB h hst
      exact ⟨_, _, _, p', hk, hs, hm, hr, Pres.upd (fun cs e => by rw [hst] at e; cases e)⟩
    · rename_i e z l pub hst
      obtain ⟨p', hs, hm, hr⟩ := publishL h hst
      exact ⟨_, _, _, p', hk, hs, hm, hr, Pres.upd (fun cs e => by rw [hst] at e; cases e)⟩
    · cases hk
  · obtain ⟨rfl, hn⟩ := hx.int
    exact ⟨_, _, _, p, hk, h, Mono.refl, .int hn, Pres.refl⟩
  · have e := hx.u8; subst e
    exact ⟨_, _, _, p, hk, h, Mono.refl, .u8, Pres.refl⟩
  · have e := hx.bool; subst e
    exact ⟨_, _, _, p, hk, h, Mono.refl, .bool, Pres.refl⟩
  · obtain ⟨s, rfl, hs⟩ := hx.str
    exact ⟨_, _, _, p, hk, h, Mono.refl, .str hs, Pres.refl⟩
  · exact ⟨_, _, _, p, hk, h, Mono.refl, hx.bs, Pres.refl⟩
  · exact ⟨_, _, _, p, hk, h, Mono.refl, hx.sl, Pres.refl⟩
  · have : RepI w p x .nilp := by
      rcases hx with hx | (hx | ⟨arr, cs, _, hx, _⟩) | ⟨arr, cs, _, hx, _⟩ <;> first | cases hx
      assumption
    exact ⟨_, _, _, p, hk, h, Mono.refl, this, Pres.refl⟩
  · exact ⟨_, _, _, p, hk, h, Mono.refl, hx.rptr, Pres.refl⟩
  · cases hk
theorem sim_out1 {α : Type} {st : Nat → Blk} (h : SInv B M w0 p0 w p g st) {c : CT} {x : Value} {v : AV} (hx : RepV w p g (used st) x v) {k : AV → (Nat → Blk) → FP → Option α} {r : α} (hk : out1 c v st k = some r) :
    ∃ a st' fp p', k a st' fp = some r ∧ SInv B M w0 p0 w p' g st' ∧ Mono w p g (used st) w p' g (used st') ∧ RepI w p' x a := by
  obtain ⟨a, st', fp, p', h1, h2, h3, h4, _⟩ := sim_out1' h hx hk
  exact ⟨a, st', fp, p', h1, h2, h3, h4⟩
theorem sim_outCs' {α : Type} : ∀ {cts : List CT} {vs : List AV} {xs : List Value} {st : Nat → Blk} {p : Prot}, SInv B M w0 p0 w p g st → Cells (RepC w p g (used st)) xs vs → ∀ {k : List AV → (Nat → Blk) → FP → Option α} {r : α},
    outCs cts vs st k = some r → ∃ as st' fp p', k as st' fp = some r ∧ SInv B M w0 p0 w p' g st' ∧ Mono w p g (used st) w p' g (used st') ∧ Cells (RepI w p') xs as ∧ Pres st st'
  | [], [], xs, st, p, h, hx, k, r, hk => by
    simp only [outCs] at hk
    have := hx.nil_iff
    subst this
    exact ⟨_, _, _, p, hk, h, Mono.refl, .nil, Pres.refl⟩
  | c :: cs, v :: vs, xs, st, p, h, hx, k, r, hk => by
    simp only [outCs] at hk
    obtain ⟨x, xs', rfl, h1, h2⟩ := hx.uncons
    obtain ⟨a, st1, f1, p1, hk1, hs1, hm1, hr1, hp1⟩ := sim_out1' h h1.v hk
    obtain ⟨as, st2, f2, p2, hk2, hs2, hm2, hr2, hp2⟩ := sim_outCs' hs1 (h2.imp fun _ _ => hm1.repC) hk1
    exact ⟨_, _, _, p2, hk2, hs2, hm1.trans hm2, .cons (hm2.repI hr1) hr2, hp1.trans hp2⟩
  | [], _ :: _, _, _, _, _, _, _, _, hk => by simp [outCs] at hk
  | _ :: _, [], _, _, _, _, _, _, _, hk => by simp [outCs] at hk
theorem sim_out' {α : Type} {st : Nat → Blk} (h : SInv B M w0 p0 w p g st) {i : TI} {x : Value} {v : AV} (hx : RepV w p g (used st) x v) {k : AV → (Nat → Blk) → FP → Option α} {r : α} (hk : out i v st k = some r) :
    ∃ a st' fp p', k a st' fp = some r ∧ SInv B M w0 p0 w p' g st' ∧ Mono w p g (used st) w p' g (used st') ∧ RepO w p' x a ∧ Pres st st' := by
  unfold out at hk
  split at hk
  · obtain ⟨arr, rfl, hc⟩ := hx.agg
    obtain ⟨as, st', fp, p', hk', hs, hm, hr, hp⟩ := sim_outCs' h hc hk
    exact ⟨_, _, _, p', hk', hs, hm, .inr ⟨arr, as, rfl, rfl, hr⟩, hp⟩
  · split at hk
    · obtain ⟨a, st', fp, p', hk', hs, hm, hr, hp⟩ := sim_out1' h hx hk
      exact ⟨_, _, _, p', hk', hs, hm, .inl hr, hp⟩
    · cases hk
  · cases hk
theorem sim_outCs {α : Type} {cts : List CT} {vs : List AV} {xs : List Value} {st : Nat → Blk} {p : Prot} (h : SInv B M w0 p0 w p g st) (hx : Cells (RepC w p g (used st)) xs vs) {k : List AV → (Nat → Blk) → FP → Option α} {r : α} (hk : outCs cts vs st k = some r) :
    ∃ as st' fp p', k as st' fp = some r ∧ SInv B M w0 p0 w p' g st' ∧ Mono w p g (used st) w p' g (used st') ∧ Cells (RepI w p') xs as := by
  obtain ⟨a, st', fp, p', h1, h2, h3, h4, _⟩ := sim_outCs' h hx hk
  exact ⟨a, st', fp, p', h1, h2, h3, h4⟩
theorem sim_out {α : Type} {st : Nat → Blk} (h : SInv B M w0 p0 w p g st) {i : TI} {x : Value} {v : AV} (hx : RepV w p g (used st) x v) {k : AV → (Nat → Blk) → FP → Option α} {r : α} (hk : out i v st k = some r) :
    ∃ a st' fp p', k a st' fp = some r ∧ SInv B M w0 p0 w p' g st' ∧ Mono w p g (used st) w p' g (used st') ∧ RepO w p' x a := by
  obtain ⟨a, st', fp, p', h1, h2, h3, h4, _⟩ := sim_out' h hx hk
  exact ⟨a, st', fp, p', h1, h2, h3, h4⟩
def GoodU (B : Nat) (M : Nat → Prop) (w0 : World) (p0 : Prot) (w : World) (p : Prot) (g : Nat → Value) (st : Nat → Blk) (st' : Nat → Blk) (r : Result Unit) : Prop :=
  ∃ w' p' g', r = .ok () w' ∧ SInv B M w0 p0 w' p' g' st' ∧ Mono w p g (used st) w' p' g' (used st')
theorem set_split {β : Type} (c : List β) (j : Nat) (x : β) (h : j < c.length) : c.take j ++ [x] ++ c.drop (j + 1) = c.set j x := by
  rw [List.set_eq_take_append_cons_drop, if_pos h]; simp
theorem cells_place {R : Value → AV → Prop} {vs us : List Value} {cs ds : List AV} (h : Cells R vs cs) (k : Cells R us ds) (off : Nat) :
    Cells R (vs.take off ++ us ++ vs.drop (off + us.length)) (place cs off ds) := by
  unfold place
  rw [k.len]
  exact ((h.take off).append k).append (h.drop _)
theorem run_storeVar {t : Nat} {i : TI} (hi : mkTI P t = some i) {β off : Nat} {c : Array Value} {e : TypeId} (hh : w.heap[β]? = some (.cells c e (0, 0))) {v : Value} (hl : v.cells.size = i.size) (hfit : off + i.size ≤ c.size)
    (h1 : ∀ x ∈ v.cells.toList, x.oneCell' = true) :
    (storeVar t ⟨β, off, none⟩ v).run P w = .ok () (w.setRow β (c.toList.take off ++ v.cells.toList ++ c.toList.drop (off + v.cells.toList.length)).toArray) := by
  obtain ⟨info, z, a1, a2, a3, a4, a5, a6, a7, a8, a9, _⟩ := mkTI_info hi
  have hst := run_storeCells_at (P := P) β off e v.cells.toList 0 c w hh (by simp; omega) h1
  simp only [Nat.add_zero] at hst
  simp [storeVar, run_sizeOf a1, a2, hl, hst]
theorem place_left (a b : List AV) (off : Nat) (n : List AV) (h : off + n.length ≤ a.length) : place (a ++ b) off n = place a off n ++ b := by
  unfold place
  rw [List.take_append_of_le_length (by omega), List.drop_append_of_le_length h]
  simp
theorem place_right (a b : List AV) (q : Nat) (n : List AV) : place (a ++ b) (a.length + q) n = a ++ place b q n := by
  unfold place
  rw [List.take_append, List.drop_append, List.take_of_length_le (by omega), List.drop_of_length_le (by omega)]
  rw [show a.length + q - a.length = q by omega, show a.length + q + n.length - a.length = q + n.length by omega]
  simp
theorem flat_set {sz off : Nat} {news : List AV} : ∀ {els : List AV} {j : Nat} {x x' : AV}, els[j]? = some x → (∀ y ∈ els, y.cells.length = sz) → x'.cells = place x.cells off news → off + news.length ≤ sz →
    (els.set j x').flatMap AV.cells = place (els.flatMap AV.cells) (j * sz + off) news
  | [], j, x, x', h, _, _, _ => by simp at h
  | y :: r, 0, x, x', h, hs, hx, hf => by
    simp at h
    subst h
    have hy := hs y (by simp)
    rw [List.set_cons_zero, List.flatMap_cons, List.flatMap_cons, hx, Nat.zero_mul, Nat.zero_add, place_left _ _ _ _ (by omega)]
  | y :: r, j + 1, x, x', h, hs, hx, hf => by
    simp at h
    have hy := hs y (by simp)
    have ih := flat_set h (fun z hz => hs z (by simp [hz])) hx hf
    rw [List.set_cons_succ, List.flatMap_cons, List.flatMap_cons, ih]
    rw [show (j + 1) * sz + off = y.cells.length + (j * sz + off) by rw [hy, Nat.add_mul]; omega, place_right]
theorem place_length (cs : List AV) (off : Nat) (n : List AV) (h : off + n.length ≤ cs.length) : (place cs off n).length = cs.length := by
  unfold place; simp; omega
theorem take_set_row {c : List Value} {n q : Nat} {us : List Value} (h : q + us.length ≤ n) (hn : n ≤ c.length) : (c.take q ++ us ++ c.drop (q + us.length)).take n = (c.take n).take q ++ us ++ (c.take n).drop (q + us.length) := by
  apply List.ext_getElem?
  intro i
  simp only [List.getElem?_take, List.getElem?_append, List.getElem?_drop, List.length_append, List.length_take]
  by_cases h1 : i < n
  · by_cases h2 : i < q
    · have e1 : i < min q c.length + us.length := by omega
      have e2 : i < min q c.length := by omega
      have e3 : i < min q (min n c.length) + us.length := by omega
      have e4 : i < min q (min n c.length) := by omega
      simp [h1, h2, e1, e2, e3, e4]
    · by_cases h3 : i < q + us.length
      · have e1 : i < min q c.length + us.length := by omega
        have e2 : ¬ i < min q c.length := by omega
        have e3 : i < min q (min n c.length) + us.length := by omega
        have e4 : ¬ i < min q (min n c.length) := by omega
        simp [h1, e1, e2, e3, e4]
        congr 1
        omega
      · have e1 : ¬ i < min q c.length + us.length := by omega
        have e3 : ¬ i < min q (min n c.length) + us.length := by omega
        have e5 : q + us.length + (i - (min q (min n c.length) + us.length)) < n := by omega
        simp [h1, e1, e3]
        rw [if_pos (by omega)]
        congr 1
        omega
  · have e1 : ¬ i < min q (min n c.length) + us.length := by omega
    simp [h1, e1]
    intro h5
    omega
theorem sim_doStore {α : Type} {E : Env} (hty : ∀ t i, E.ty t = some i → mkTI P t = some i) {fr : Fr} {t : Nat} {i : TI} (hi : mkTI P t = some i) (h : SInv B M w0 p0 w p g fr.st) {x y : Value} {a b : AV} (hx : RepV w p g (used fr.st) x a) (hy : RepV w p g (used fr.st) y b) {k : Ret α} {r : α}
    (hk : doStore E fr i a b k = some r) : ∃ st' fp, k .undef st' fp = some r ∧ GoodU B M w0 p0 w p g fr.st st' ((Instr.storeAt t x y).run P w) := by
  unfold doStore at hk
  split at hk
  · rename_i kk off
    obtain ⟨hu, β, hg, rfl⟩ := hx.ptr
    have hb := h.blk kk
    split at hk
    · rename_i cs hst
      rw [hst] at hb
      obtain ⟨β', c, e, h1, h2, h3, h4, h5⟩ := hb
      have : β' = β := by rw [h1] at hg; cases hg; rfl
      subst this
      obtain ⟨hcond, hk2⟩ := bif_inv hk
      simp only [Bool.and_eq_true, beq_iff_eq] at hcond
      obtain ⟨⟨hlen, hfit⟩, hcell⟩ := hcond
      have hfit' : off + i.size ≤ cs.length := Nat.le_of_ble_eq_true hfit
      have hyc := hy.cells hcell
      rw [placeL_eq _ _ _ (by rw [hlen]; exact hfit')] at hk2
      refine ⟨_, _, hk2, ?_⟩
      have hsz : y.cells.size = i.size := by have := hyc.len; simp at this; omega
      have hcsz : c.size = cs.length := by have := h4.len; simpa using this
      have hrun := run_storeVar (P := P) (w := w) hi h3 (v := y) (off := off) hsz (by omega) hyc.one
      obtain ⟨hs, hm⟩ := h.modify (k := kk) (b := .cells (place cs off b.cells)) (w' := w.setRow β' (c.toList.take off ++ y.cells.toList ++ c.toList.drop (off + y.cells.toList.length)).toArray) (p' := p) (β₀ := β') (by rw [hst]; trivial) trivial (by rw [h1]; rfl)
        rfl rfl rfl (by simp) (fun β hne => ⟨setRow_other w β' β _ hne, rfl⟩) (fun hlt => ⟨by rcases h2 with h2 | h2; exact h2; omega, rfl⟩) (Nat.le_refl _) (fun i hi => by rw [h5] at hi; omega)
        (fun hm => ⟨β', _, e, h1, h2, setRow_heap w β' c _ e _ h3, by
          have := cells_place h4 hyc off
          simpa using this.imp fun _ _ => hm.repC, h5⟩)
      exact ⟨_, p, g, by simpa [Instr.storeAt, Instr.sureAddr] using hrun, hs, hm⟩
    · cases hk
  · rename_i kk j sz off
    obtain ⟨hu, β, hg, rfl⟩ := hx.eptr
    have hb := h.blk kk
    have key : ∀ (l : List UInt8) (c : Array Value) (e : TypeId) (n : Nat) (pub : Bool) (mk : List UInt8 → Blk), w.heap[β]? = some (.cells c e (0, 0)) → c.toList.take n = l.map u8v → (pub = false → p β = 0) → B ≤ β → (fr.st kk).live → (∀ l, (mk l).live) →
        (∀ (xb : UInt8), j < l.length → pub = false → ∀ (w' : World), w'.heap[β]? = some (.cells (c.toList.set j (u8v xb)).toArray e (0, 0)) → ∀ u', BlkOK w' p g u' B M kk (mk (l.set j xb))) →
        (b.onU8 fun x => chk (Nat.blt j l.length && Nat.beq off 0 && Nat.beq sz 1 && Nat.beq i.size 1 && !pub) (k .undef (upd fr.st kk (mk (l.set j x))) ⟨[kk], [kk]⟩)) = some r →
        ∃ st' fp, k .undef st' fp = some r ∧ GoodU B M w0 p0 w p g fr.st st' ((Instr.storeAt t (.pointer (some ⟨β, j * sz + off, none⟩)) y).run P w) := by
      intro l c e n pub mk hh htake hp hBβ hlive hlive' hbok hk2
      unfold AV.onU8 at hk2
      split at hk2
      · rename_i _ xb
        have hyv := hy.u8
        subst hyv
        obtain ⟨hcond, hk3⟩ := chk_inv hk2
        simp only [Bool.and_eq_true, Bool.not_eq_true'] at hcond
        obtain ⟨⟨⟨⟨hj, ho⟩, hs⟩, hs1⟩, hpub⟩ := hcond
        have hlt : j < l.length := Nat.le_of_ble_eq_true hj
        have hsz : i.size = 1 := Nat.eq_of_beq_eq_true hs1
        have ho' := Nat.eq_of_beq_eq_true ho
        have hs' := Nat.eq_of_beq_eq_true hs
        subst ho'; subst hs'; subst hpub
        have hjc : j < c.size := by
          have := congrArg List.length htake
          simp at this
          omega
        have hrun := run_storeVar (P := P) (w := w) hi hh (v := u8v xb) (off := j) (by simp [u8v, Value.cells, hsz]) (by omega) (fun x hx => by simp [u8v, Value.cells] at hx; subst hx; rfl)
        refine ⟨_, _, hk3, ?_⟩
        have hcells : (u8v xb).cells.toList = [u8v xb] := rfl
        rw [hcells] at hrun
        simp only [List.length_singleton] at hrun
        rw [set_split _ _ _ (by simpa using hjc)] at hrun
        obtain ⟨hs, hm⟩ := h.modify (k := kk) (b := mk (l.set j xb)) (w' := w.setRow β (c.toList.set j (u8v xb)).toArray) (p' := p) (β₀ := β) hlive (hlive' _) hg
          rfl rfl rfl (by simp) (fun β' hne => ⟨setRow_other w β β' _ hne, rfl⟩) (fun hlt => by omega) (Nat.le_refl _) (fun i hi => by rw [hp rfl] at hi; omega)
          (fun hm => hbok xb hlt rfl _ (setRow_heap w β c _ e _ hh) _)
        exact ⟨_, p, g, by simpa [Instr.storeAt, Instr.sureAddr] using hrun, hs, hm⟩
      · cases hk2
    split at hk
    · rename_i e l pub hst
      rw [hst] at hb
      obtain ⟨⟨hlen, ⟨hn, a, hv⟩ | ⟨β', cap, cur, hv, h0, hB, hh, hnc, hcm, hcs, htake⟩⟩, hp⟩ := hb
      · rw [hv] at hg; cases a <;> simp [vblk] at hg
      · have hbe : β' = β := by rw [hv] at hg; simp [vblk] at hg; exact hg.2
        subst hbe
        refine key l cur e _ pub (fun l => .rowB e l false) hh htake ((hp β' hg).2) hB (by rw [hst]; trivial) (fun _ => trivial) ?_ hk
        intro xb hlt hpub w' hw' u'
        refine ⟨⟨by simp, .inr ⟨β', cap, _, hv.trans (by simp), h0, hB, hw', by simpa using hnc, hcm, ?_, ?_⟩⟩, fun β hvb => ?_⟩
        · simpa using hcs
        · simp only [List.length_set]
          rw [List.take_set, htake, List.map_set]
        · rw [hg] at hvb; cases hvb
          exact ⟨by rw [(hp β' hg).2 hpub]; exact Nat.zero_le _, fun _ => (hp β' hg).2 hpub⟩
    · rename_i l pub hst
      rw [hst] at hb
      obtain ⟨β', c, e, h1, h2, h3, h4, h5, h6⟩ := hb
      have hbe : β' = β := by rw [h1] at hg; simp [vblk] at hg; exact hg
      subst hbe
      refine key l c e c.size pub (fun l => .barr l false) h3 (by rw [List.take_of_length_le (by simp)]; exact h4) h6 h2 (by rw [hst]; trivial) (fun _ => trivial) ?_ hk
      intro xb hlt hpub w' hw' u'
      refine ⟨β', _, e, h1, h2, hw', ?_, by rw [h6 hpub]; exact Nat.zero_le _, fun _ => h6 hpub⟩
      show c.toList.set j (u8v xb) = _
      rw [h4, List.map_set]
    · rename_i e z l pub hst
      split at hk
      · rename_i ei hei
        obtain ⟨hcond, hk2⟩ := chk_inv hk
        simp only [Bool.and_eq_true, Bool.not_eq_true'] at hcond
        obtain ⟨⟨hj0, hz⟩, hpub0⟩ := hcond
        have hz' := Nat.eq_of_beq_eq_true hz
        subst hz'
        obtain ⟨v', st1, f1, p1, hk3, hs1, hm1, hr1⟩ := sim_out h hy hk2
        have hb1 := hs1.blk kk
        split at hk3
        · rename_i e1 z1 l1 hst1
          have hk4 := norm_inv hk3
          obtain ⟨hcond, hk5⟩ := bif_inv hk4
          simp only [Bool.and_eq_true, beq_iff_eq] at hcond
          obtain ⟨⟨⟨⟨hlv, hfit⟩, hpos⟩, hzz⟩, hjb⟩ := hcond
          have hzz' := Nat.eq_of_beq_eq_true hzz
          subst hzz'
          have hfit' := Nat.le_of_ble_eq_true hfit
          have hpos' : 0 < i.size := Nat.le_of_ble_eq_true hpos
          have hjl : j < l1.length := Nat.le_of_ble_eq_true hjb
          rw [hst1] at hb1
          obtain ⟨hz0, hsz, vs, hrow, hcells, hp⟩ := hb1
          obtain ⟨hlen, ⟨hn, a, hv⟩ | ⟨β', cap, cur, hv, h0, hB, hh, hnc, hcm, hcs, htake⟩⟩ := hrow
          · omega
          · have hbe : β' = β := by rw [hv] at hg; simp [vblk] at hg; exact hg.2
            subst hbe
            have hel : l1[j]? = some (l1.getD j .undef) := by simp [hjl]
            have hold : (l1.getD j .undef).cells.length = z1 := hsz _ (List.mem_of_getElem? hel)
            have hvc := hr1.cells
            have hvl : y.cells.toList.length = i.size := by rw [hvc.len, hlv]
            have hvs : y.cells.size = i.size := by simpa using hvl
            have hp0 := (hp β' hg).2 rfl
            have hge : (j + 1) * z1 ≤ l1.length * z1 := Nat.mul_le_mul_right z1 hjl
            rw [Nat.add_mul] at hge
            have hge2 : l1.length * z1 ≤ cap * z1 := Nat.mul_le_mul_right z1 hnc
            have hrun := run_storeVar (P := P) (w := w) hi hh (v := y) (off := j * z1 + off) hvs (by rw [hcs]; omega) hvc.oneI
            obtain ⟨info, z, a1, a2, a3, a4, a5, a6, a7, a8, a9, _⟩ := mkTI_info (hty _ _ hei)
            have hxc : (setEl ei (l1.getD j .undef) off v'.cells).cells = place (l1.getD j .undef).cells off v'.cells := by
              unfold setEl
              split
              · rfl
              · rename_i hagg
                have hc1 := norm_cell hk3 hagg
                have hz1 : z1 = 1 := by rw [← hold, hc1]; rfl
                have hl1 : v'.cells.length = 1 := by rw [hc1] at hfit'; simp at hfit'; omega
                have ho0 : off = 0 := by rw [hc1] at hfit'; simp at hfit'; omega
                obtain ⟨c, hcc⟩ := List.length_eq_one_iff.1 hl1
                rw [hcc] at hvc ⊢
                obtain ⟨cv, _, _, hcr, _⟩ := hvc.uncons
                rw [hc1, ho0]
                simp [place, hcr.cell1.2.2.1]
            refine ⟨_, _, hk5, ?_⟩
            obtain ⟨hs2, hm2⟩ := hs1.modify (k := kk) (b := .rowL e1 z1 (l1.set j (setEl ei (l1.getD j .undef) off v'.cells)) false) (w' := w.setRow β' (cur.toList.take (j * z1 + off) ++ y.cells.toList ++ cur.toList.drop (j * z1 + off + y.cells.toList.length)).toArray) (p' := p1) (β₀ := β')
              (by rw [hst1]; trivial) trivial hg rfl rfl rfl (by simp) (fun β hne => ⟨setRow_other w β' β _ hne, rfl⟩) (fun hlt => by omega) (Nat.le_refl _) (fun q hq => by rw [hp0] at hq; omega)
              (fun hm => by
                refine ⟨hz0, fun q hq => ?_, vs.take (j * z1 + off) ++ y.cells.toList ++ vs.drop (j * z1 + off + y.cells.toList.length), ⟨?_, .inr ⟨β', cap, _, hv.trans (by simp), h0, hB, setRow_heap w β' cur _ e1 _ hh, by simpa using hnc, hcm, ?_, ?_⟩⟩, ?_, fun β hvb => ?_⟩
                · rcases List.mem_or_eq_of_mem_set hq with hq | rfl
                  · exact hsz q hq
                  · rw [hxc, place_length _ _ _ (by rw [hlv]; omega), hold]
                · simp; omega
                · simp; omega
                · simp only [List.length_set]
                  rw [take_set_row (by omega) (by simp; omega), htake]
                · rw [flat_set hel hsz hxc (by rw [hlv, ← hold]; omega)]
                  have := cells_place hcells (hvc) (j * z1 + off)
                  exact this.imp fun _ _ => hm.repI
                · rw [hg] at hvb; cases hvb
                  exact ⟨by rw [hp0]; exact Nat.zero_le _, fun _ => hp0⟩)
            exact ⟨_, p1, g, by simpa [Instr.storeAt, Instr.sureAddr] using hrun, hs2, hm1.trans hm2⟩
        · cases hk3
      · cases hk
    · cases hk
  · cases hk
end
end Go.Abs
