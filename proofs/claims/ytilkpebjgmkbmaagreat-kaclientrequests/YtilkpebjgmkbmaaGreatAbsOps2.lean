/- Operations on memory: new blocks, loads, stores. -/
import Derived.Test.YtilkpebjgmkbmaaGreatAbsOps1
namespace Go.Abs
set_option linter.unusedVariables false
section
variable {P : Program} {B : Nat} {M : Nat → Prop} {w0 : World} {p0 : Prot} {w : World} {p : Prot} {g : Nat → Value}
def Good (B : Nat) (M : Nat → Prop) (w0 : World) (p0 : Prot) (w : World) (p : Prot) (g : Nat → Value) (st : Nat → Blk) (v : AV) (st' : Nat → Blk) (r : Result Value) : Prop :=
  ∃ v' w' p' g', r = .ok v' w' ∧ SInv B M w0 p0 w' p' g' st' ∧ Mono w p g (used st) w' p' g' (used st') ∧ RepV w' p' g' (used st') v' v
theorem Good.same {st : Nat → Blk} {v : AV} {v' : Value} {r : Result Value} (h : SInv B M w0 p0 w p g st) (hr : r = .ok v' w) (hv : RepV w p g (used st) v' v) : Good B M w0 p0 w p g st v st r :=
  ⟨v', w, p, g, hr, h, Mono.refl, hv⟩
theorem heap_push_old (w : World) (o : Obj) {β : Nat} (h : β < w.heap.size) : (w.alloc o).heap[β]? = w.heap[β]? := Go.RowKit.Below.heap_alloc w o β h
theorem heap_push_new (w : World) (o : Obj) : (w.alloc o).heap[w.heap.size]? = some o := heap_alloc_new w o
theorem SInv.newp_alloc {st : Nat → Blk} (h : SInv B M w0 p0 w p g st) (o : Obj) : ∀ β, (w.alloc o).heap.size ≤ β → p β = 0 := fun β hβ => h.newp β (by simp at hβ; omega)
theorem good_newCells {st : Nat → Blk} {t : Nat} (h : SInv B M w0 p0 w p g st) (ht : st t = .free) (c : Array Value) (e : TypeId) {cs : List AV} (hc : Cells (RepC w p g (used st)) c.toList cs) :
    Good B M w0 p0 w p g st (.ptr t 0) (upd st t (.cells cs)) (.ok (.pointer (some ⟨w.heap.size, 0, none⟩)) (w.alloc (.cells c e))) := by
  obtain ⟨hs, hm⟩ := h.add (w' := w.alloc (.cells c e)) (p' := p) (t := t) (b := .cells cs) (v := .pointer (some ⟨w.heap.size, 0, none⟩)) ht (by simp) rfl rfl rfl (by simp)
    (fun β hβ => ⟨heap_push_old w _ hβ, rfl⟩) (fun _ => Nat.le_refl _) (h.newp_alloc _) (fun β hβ => by simp [vblk] at hβ; omega)
    (fun hm => ⟨w.heap.size, c, e, by rw [upd_same], .inr h.size, heap_push_new w _, hc.imp fun _ _ => hm.repC, h.newp _ (Nat.le_refl _)⟩)
  refine ⟨_, _, p, _, rfl, hs, hm, RepC.v (.ptr ?_ (by rw [upd_same]))⟩
  unfold used; rw [upd_same]; simp
theorem good_newBarr {st : Nat → Blk} {t : Nat} (h : SInv B M w0 p0 w p g st) (ht : st t = .free) (c : Array Value) (e : TypeId) {l : List UInt8} (hc : c.toList = l.map u8v) :
    Good B M w0 p0 w p g st (.ptr t 0) (upd st t (.barr l false)) (.ok (.pointer (some ⟨w.heap.size, 0, none⟩)) (w.alloc (.cells c e))) := by
  have hp : p w.heap.size = 0 := h.newp _ (Nat.le_refl _)
  obtain ⟨hs, hm⟩ := h.add (w' := w.alloc (.cells c e)) (p' := p) (t := t) (b := .barr l false) (v := .pointer (some ⟨w.heap.size, 0, none⟩)) ht (by simp) rfl rfl rfl (by simp)
    (fun β hβ => ⟨heap_push_old w _ hβ, rfl⟩) (fun _ => Nat.le_refl _) (h.newp_alloc _) (fun β hβ => by simp [vblk] at hβ; omega)
    (fun hm => ⟨w.heap.size, c, e, by rw [upd_same], h.size, heap_push_new w _, hc, by omega, fun _ => hp⟩)
  refine ⟨_, _, p, _, rfl, hs, hm, RepC.v (.ptr ?_ (by rw [upd_same]))⟩
  unfold used; rw [upd_same]; simp
theorem u8s_map : ∀ {as : List AV} {l : List UInt8}, u8s as = some l → as = l.map .u8
  | [], l, h => by simp [u8s] at h; subst h; rfl
  | a :: r, l, h => by
    cases a <;> simp [u8s] at h
    obtain ⟨l', h', rfl⟩ := h
    rw [u8s_map h']; rfl
theorem cells_u8 {R : Value → AV → Prop} (hR : ∀ v b, R v (.u8 b) → v = u8v b) : ∀ {vs : List Value} {l : List UInt8}, Cells R vs (l.map .u8) → vs = l.map u8v
  | vs, [], h => h.nil_iff
  | vs, b :: l, h => by
    obtain ⟨v, vs', rfl, h1, h2⟩ := h.uncons
    rw [hR v b h1, cells_u8 hR h2]; rfl
theorem repI_u8 {v : Value} {b : UInt8} (h : RepI w p v (.u8 b)) : v = u8v b := by cases h; rfl
theorem repC_u8 {u : Nat → Prop} {v : Value} {b : UInt8} (h : RepC w p g u v (.u8 b)) : v = u8v b := by cases h with | imm h => exact repI_u8 h
theorem run_alloc {t : Nat} {info : TypeInfo} {z : Value} (hi : P.info? t = some info) (hz : info.zero = some z) :
    (Instr.alloc t true (.tuple #[])).run P w = .ok (.pointer (some ⟨w.heap.size, 0, none⟩)) (w.alloc (.cells z.cells t)) := by
  unfold Instr.alloc
  simp [run_zeroValue hi hz, newVar, newRow]
theorem sim_alloc {α : Type} {fr : Fr} {e t : Nat} {i : TI} (hi : mkTI P e = some i) (h : SInv B M w0 p0 w p g fr.st) {k : Ret α} {r : α}
    (hk : (match i.kind with | .arr _ _ true => (u8s i.zero).bind fun l => newBlk fr t (.barr l false) (.ptr t 0) k | _ => newBlk fr t (.cells i.zero) (.ptr t 0) k) = some r) :
    ∃ v st' fp, k v st' fp = some r ∧ Good B M w0 p0 w p g fr.st v st' ((Instr.alloc e true (.tuple #[])).run P w) := by
  obtain ⟨info, z, h1, h2, h3, h4, h5, h6, h7, h8, h9, _⟩ := mkTI_info hi
  rw [run_alloc h1 h4]
  have hz := ofCells_rep (w := w) (p := p) h5
  have key : newBlk fr t (.cells i.zero) (.ptr t 0) k = some r → ∃ v st' fp, k v st' fp = some r ∧ Good B M w0 p0 w p g fr.st v st' (.ok (.pointer (some ⟨w.heap.size, 0, none⟩)) (w.alloc (.cells z.cells e))) := by
    intro hk
    unfold newBlk at hk
    split at hk
    · rename_i ht
      exact ⟨_, _, _, hk, good_newCells h ht _ _ (hz.imp fun _ _ => .imm)⟩
    · cases hk
  split at hk
  · cases hl : u8s i.zero with
    | none => simp [hl] at hk
    | some l =>
      simp only [hl, Option.bind_some, newBlk] at hk
      split at hk
      · rename_i ht
        refine ⟨_, _, _, hk, good_newBarr h ht _ _ ?_⟩
        rw [u8s_map hl] at hz
        exact cells_u8 (fun v b => repI_u8) hz
      · cases hk
  · exact key hk
theorem sim_box {α : Type} {fr : Fr} {e t : Nat} {i : TI} {x : Value} {a : AV} (h : SInv B M w0 p0 w p g fr.st) (hx : RepV w p g (used fr.st) x a) {k : Ret α} {r : α}
    (hk : (bif a.cells.length == i.size && a.cells.all AV.isCell then newBlk fr t (.cells a.cells) (.ptr t 0) k else none) = some r) :
    ∃ v st' fp, k v st' fp = some r ∧ Good B M w0 p0 w p g fr.st v st' ((Instr.box e x).run P w) := by
  cases hc : (a.cells.length == i.size && a.cells.all AV.isCell) with
  | false => simp [hc] at hk
  | true =>
    simp only [hc, cond_true, newBlk] at hk
    simp only [Bool.and_eq_true] at hc
    split at hk
    · rename_i ht
      refine ⟨_, _, _, hk, ?_⟩
      have : (Instr.box e x).run P w = .ok (.pointer (some ⟨w.heap.size, 0, none⟩)) (w.alloc (.cells x.cells e)) := by
        unfold Instr.box; simp [newVar, newRow]
      rw [this]
      exact good_newCells h ht _ _ (hx.cells hc.2)
    · cases hk
theorem addr_add (β off j : Nat) : (⟨β, off, none⟩ : Addr).add j = ⟨β, off + j, none⟩ := by unfold Addr.add; split <;> simp_all
theorem run_loadVar {t : Nat} {i : TI} (hi : mkTI P t = some i) {β off : Nat} {vs : List Value} (hl : vs.length = i.size ∨ (isAggK i.kind = false ∧ 0 < vs.length))
    (hc : ∀ j v, vs[j]? = some v → w.cell? ⟨β, off + j, none⟩ = some v) :
    (loadVar t ⟨β, off, none⟩).run P w = .ok (if isAggK i.kind then .agg vs.toArray else vs.headD undef) w ∨ vs = [] := by
  obtain ⟨info, z, h1, h2, h3, h4, h5, h6, h7, h8, h9, _⟩ := mkTI_info hi
  cases hk : isAggK i.kind with
  | true =>
    left
    have hl' : vs.length = i.size := by rcases hl with hl | hl; exact hl; rw [hk] at hl; cases hl.1
    have hld := run_loadCells_list (P := P) w ⟨β, off, none⟩ vs (fun j v hj => by rw [addr_add]; exact hc j v hj)
    rw [hl', ← h2] at hld
    simp [loadVar, run_isAgg h8, hk, run_sizeOf h1, hld]
  | false =>
    cases vs with
    | nil => exact .inr rfl
    | cons v vs =>
      left
      have := hc 0 v rfl
      simp [loadVar, run_isAgg h8, hk]
      rw [show off = off + 0 from rfl, this]
def GoodR (w : World) (p : Prot) (g : Nat → Value) (st : Nat → Blk) (v : AV) (r : Result Value) : Prop := ∃ v', r = .ok v' w ∧ RepV w p g (used st) v' v
theorem GoodR.same {st : Nat → Blk} {v : AV} {v' : Value} {r : Result Value} (hr : r = .ok v' w) (hv : RepV w p g (used st) v' v) : GoodR w p g st v r := ⟨v', hr, hv⟩
theorem GoodR.good {st : Nat → Blk} {v : AV} {r : Result Value} (h : SInv B M w0 p0 w p g st) (hg : GoodR w p g st v r) : Good B M w0 p0 w p g st v st r := by
  obtain ⟨v', hr, hv⟩ := hg
  exact Good.same h hr hv
theorem sim_loadCells {α : Type} {st : Nat → Blk} {t : Nat} {i : TI} (hi : mkTI P t = some i) (h : SInv B M w0 p0 w p g st) {β off : Nat} {vs : List Value} {cs : List AV} (hcs : Cells (RepC w p g (used st)) vs cs)
    (hc : ∀ j v, vs[j]? = some v → w.cell? ⟨β, off + j, none⟩ = some v) {k : AV → Option α} {r : α} (hk : loadCells i cs k = some r) :
    ∃ v, k v = some r ∧ GoodR w p g st v ((loadVar t ⟨β, off, none⟩).run P w) := by
  unfold loadCells at hk
  cases hb : Nat.ble i.size cs.length with
  | false => simp [hb] at hk
  | true =>
    simp only [hb, cond_true] at hk
    have hle : i.size ≤ cs.length := Nat.le_of_ble_eq_true hb
    split at hk
    · rename_i hagg
      refine ⟨_, hk, ?_⟩
      have h1 := run_loadVar (P := P) (w := w) hi (β := β) (off := off) (vs := vs.take i.size) (.inl (by simp [hcs.len]; omega)) (fun j v hj => by
        rw [List.getElem?_take] at hj
        split at hj
        · exact hc j v hj
        · cases hj)
      have h1' : (loadVar t ⟨β, off, none⟩).run P w = .ok (.agg (vs.take i.size).toArray) w := by
        rcases h1 with h1 | h1
        · rw [h1, hagg]; rfl
        · obtain ⟨info, z, a1, a2, a3, a4, a5, a6, a7, a8, a9, _⟩ := mkTI_info hi
          have hz : i.size = 0 := by
            have := congrArg List.length h1
            rw [List.length_take, hcs.len, List.length_nil] at this
            omega
          have hld := run_loadCells_list (P := P) w ⟨β, off, none⟩ [] (fun j v hj => by simp at hj)
          simp only [List.length_nil] at hld
          rw [hz] at a2
          simp [loadVar, run_isAgg a8, hagg, run_sizeOf a1, a2, hld, hz]
      exact GoodR.same h1' (.inr (.inl (.inr ⟨_, _, rfl, rfl, by simpa using hcs.take i.size⟩)))
    · rename_i hagg
      cases cs with
      | nil => simp at hk
      | cons c cs =>
        obtain ⟨v, vs', rfl, hv, _⟩ := hcs.uncons
        refine ⟨_, hk, ?_⟩
        have h1 := run_loadVar (P := P) (w := w) hi (β := β) (off := off) (vs := v :: vs') (.inr ⟨hagg, by simp⟩) hc
        rcases h1 with h1 | h1
        · rw [hagg] at h1
          exact GoodR.same h1 (RepC.v hv)
        · cases h1
theorem cells_el {R : Value → AV → Prop} {vs : List Value} {els : List AV} {sz : Nat} (h : Cells R vs (els.flatMap AV.cells)) (hsz : ∀ x ∈ els, x.cells.length = sz) {j : Nat} {x : AV} (hj : els[j]? = some x) (off : Nat) :
    Cells R ((vs.drop (j * sz + off)).take (sz - off)) (x.cells.drop off) := by
  have hx := hsz x (List.mem_of_getElem? hj)
  have hjl : j < els.length := (List.getElem?_eq_some_iff.1 hj).1
  have hl := h.len
  rw [flat_length hsz] at hl
  have hge : (j + 1) * sz ≤ els.length * sz := Nat.mul_le_mul_right sz hjl
  rw [Nat.add_mul] at hge
  refine ⟨?_, fun i v c hv hc => ?_⟩
  · rw [List.length_take, List.length_drop, List.length_drop, hx]
    omega
  · rw [List.getElem?_take] at hv
    split at hv
    · rw [List.getElem?_drop] at hv hc
      have := flat_get hsz hj hc
      rw [Nat.add_assoc] at hv
      exact h.each _ v c hv this
    · cases hv
theorem sim_doLoadR {α : Type} {E : Env} (hty : ∀ t i, E.ty t = some i → mkTI P t = some i) {fr : Fr} {t : Nat} {i : TI} (hi : mkTI P t = some i) (h : SInv B M w0 p0 w p g fr.st) {x : Value} {a : AV} (hx : RepV w p g (used fr.st) x a) {k : Ret α} {r : α} (hk : doLoad E fr i a k = some r) :
    ∃ v fp, k v fr.st fp = some r ∧ GoodR w p g fr.st v ((Instr.loadAt t x).run P w) := by
  unfold doLoad at hk
  split at hk
  · rename_i b off
    obtain ⟨hu, β, hg, rfl⟩ := hx.ptr
    have hb := h.blk b
    split at hk
    · rename_i cs hst
      rw [hst] at hb
      obtain ⟨β', c, e, h1, h2, h3, h4, h5⟩ := hb
      have : β' = β := by rw [h1] at hg; cases hg; rfl
      subst this
      obtain ⟨v, hk', hg'⟩ := sim_loadCells (P := P) hi h (β := β') (off := off) (h4.drop off) (fun j v hj => by
        rw [cell_heap h3]; simpa using hj) hk
      exact ⟨v, _, hk', by simpa [Instr.loadAt, Instr.sureAddr] using hg'⟩
    · cases hk
  · rename_i cs
    have hr := hx.rptr
    cases hr with
    | rptr vs hcell hrep =>
      rename_i β off
      obtain ⟨v, hk', hg'⟩ := sim_loadCells (P := P) hi h (β := β) (off := off) (vs := (List.range cs.length).map vs) (cs := cs) ⟨by simp, fun j v c hv hc => by
          have hj : j < cs.length := (List.getElem?_eq_some_iff.1 hc).1
          simp [hj] at hv
          subst hv
          exact .imm (hrep j c hc)⟩ (fun j v hj => by
          have hj' : j < cs.length := by have := (List.getElem?_eq_some_iff.1 hj).1; simpa using this
          simp [hj'] at hj
          subst hj
          exact (hcell j _ (List.getElem?_eq_getElem hj')).2) hk
      exact ⟨v, _, hk', by simpa [Instr.loadAt, Instr.sureAddr] using hg'⟩
  · rename_i b off
    obtain ⟨hu, β, j, b', hg, rfl, hc⟩ := hx.pptr
    split at hk
    · rename_i e hkd
      obtain ⟨hsz, hk2⟩ := chk_inv hk
      have hsz' := Nat.eq_of_beq_eq_true hsz
      refine ⟨_, _, hk2, ?_⟩
      have hagg : isAggK i.kind = false := by rw [hkd]; rfl
      have h1 := run_loadVar (P := P) (w := w) hi (β := β) (off := j) (vs := [.pointer (some ⟨b', off, none⟩)]) (.inr ⟨hagg, by simp⟩) (fun q v hq => by
        cases q with
        | zero => simp at hq; subst hq; simpa using hc
        | succ q => simp at hq)
      rcases h1 with h1 | h1
      · rw [hagg] at h1
        exact GoodR.same (by simpa [Instr.loadAt, Instr.sureAddr] using h1) (RepC.v (.ptr hu hg))
      · cases h1
    · cases hk
  · rename_i b j sz off
    obtain ⟨hu, β, hg, rfl⟩ := hx.eptr
    have hb := h.blk b
    have key : ∀ (l : List UInt8) (c : Array Value) (e : TypeId) (n : Nat), w.heap[β]? = some (.cells c e (0, 0)) → (c.toList.take n = l.map u8v) → chk (Nat.blt j l.length && Nat.beq off 0 && Nat.beq sz 1 && !isAggK i.kind) (k (.u8 (l.getD j 0)) fr.st ⟨[b], []⟩) = some r →
        ∃ v fp, k v fr.st fp = some r ∧ GoodR w p g fr.st v ((Instr.loadAt t (.pointer (some ⟨β, j * sz + off, none⟩))).run P w) := by
      intro l c e n hh hc hk2
      obtain ⟨hcond, hk3⟩ := chk_inv hk2
      simp only [Bool.and_eq_true, Bool.not_eq_true'] at hcond
      obtain ⟨⟨⟨hj, ho⟩, hs⟩, hagg⟩ := hcond
      have hlt : j < l.length := Nat.le_of_ble_eq_true hj
      have ho' := Nat.eq_of_beq_eq_true ho
      have hs' := Nat.eq_of_beq_eq_true hs
      subst ho'; subst hs'
      refine ⟨_, _, hk3, GoodR.same (v' := u8v (l.getD j 0)) ?_ (RepI.v .u8)⟩
      have hcell : w.cell? ⟨β, j, none⟩ = some (u8v (l.getD j 0)) := by
        rw [cell_heap hh]
        have h1 : (l.map u8v)[j]? = some (u8v (l.getD j 0)) := by simp [hlt]
        rw [← hc, List.getElem?_take] at h1
        split at h1
        · simpa using h1
        · cases h1
      obtain ⟨info, z, a1, a2, a3, a4, a5, a6, a7, a8, a9, _⟩ := mkTI_info hi
      simp [Instr.loadAt, Instr.sureAddr, loadVar, run_isAgg a8, hagg, hcell]
    split at hk
    · rename_i e l pub hst
      rw [hst] at hb
      obtain ⟨⟨hlen, ⟨hn, a, hv⟩ | ⟨β', cap, cur, hv, h0, hB, hh, hnc, hcm, hcs, htake⟩⟩, _⟩ := hb
      · rw [hv] at hg; cases a <;> simp [vblk] at hg
      · rw [hv] at hg
        have : β' = β := by simp [vblk] at hg; exact hg.2
        subst this
        exact key l cur e _ hh htake hk
    · rename_i l pub hst
      rw [hst] at hb
      obtain ⟨β', c, e, h1, h2, h3, h4, h5⟩ := hb
      rw [h1] at hg
      have : β' = β := by simp [vblk] at hg; exact hg
      subst this
      exact key l c e c.size h3 (by rw [List.take_of_length_le (by simp)]; exact h4) hk
    · rename_i e z l pub hst
      rw [hst] at hb
      split at hk
      · rename_i ei hei
        obtain ⟨hcond, hk2⟩ := chk_inv hk
        simp only [Bool.and_eq_true] at hcond
        have hlt : j < l.length := Nat.le_of_ble_eq_true hcond.1
        have hz := Nat.eq_of_beq_eq_true hcond.2
        subst hz
        have hk3 := norm_inv hk2
        obtain ⟨hz0, hsz, vs, ⟨hlen, ⟨hn, a, hv⟩ | ⟨β', cap, cur, hv, h0, hB, hh, hnc, hcm, hcs, htake⟩⟩, hcells, hp⟩ := hb
        · omega
        · rw [hv] at hg
          have : β' = β := by simp [vblk] at hg; exact hg.2
          subst this
          have hel : l[j]? = some (l.getD j .undef) := by simp [hlt]
          have hce := cells_el (hcells.imp fun _ _ hh => RepC.imm (g := g) (u := used fr.st) hh) hsz hel off
          obtain ⟨v, hk', hg'⟩ := sim_loadCells (P := P) hi h (β := β') (off := j * z + off) hce (fun q v hq => by
            rw [List.getElem?_take] at hq
            split at hq
            · rw [List.getElem?_drop, ← htake, List.getElem?_take] at hq
              split at hq
              · rw [cell_heap hh]; simpa using hq
              · cases hq
            · cases hq) hk3
          exact ⟨v, _, hk', by simpa [Instr.loadAt, Instr.sureAddr] using hg'⟩
      · cases hk
    · cases hk
  · cases hk
theorem sim_doLoad {α : Type} {E : Env} (hty : ∀ t i, E.ty t = some i → mkTI P t = some i) {fr : Fr} {t : Nat} {i : TI} (hi : mkTI P t = some i) (h : SInv B M w0 p0 w p g fr.st) {x : Value} {a : AV} (hx : RepV w p g (used fr.st) x a) {k : Ret α} {r : α} (hk : doLoad E fr i a k = some r) :
    ∃ v fp, k v fr.st fp = some r ∧ Good B M w0 p0 w p g fr.st v fr.st ((Instr.loadAt t x).run P w) := by
  obtain ⟨v, fp, h1, h2⟩ := sim_doLoadR hty hi h hx hk
  exact ⟨v, fp, h1, h2.good h⟩
end
end Go.Abs
