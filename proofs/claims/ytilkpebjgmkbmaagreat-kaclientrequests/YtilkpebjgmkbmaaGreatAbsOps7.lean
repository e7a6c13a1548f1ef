/- append. -/
import Derived.Test.YtilkpebjgmkbmaaGreatAbsOps6
namespace Go.Abs
set_option linter.unusedVariables false
section
variable {P : Program} {B : Nat} {M : Nat → Prop} {w0 : World} {p0 : Prot} {w : World} {p : Prot} {g : Nat → Value}
structure Grew (w w' : World) (o : Option Nat) (n : Nat) : Prop where
  os : w'.os = w.os
  tape : w'.tape = w.tape
  output : w'.output = w.output
  size : w.heap.size ≤ w'.heap.size
  block : ∀ β, β < w.heap.size → o ≠ some β → w'.heap[β]? = w.heap[β]?
  front : ∀ β i, o = some β → i < n → w'.cell? ⟨β, i, none⟩ = w.cell? ⟨β, i, none⟩
theorem run_append_new {t tx ty e : TypeId} {info : TypeInfo} {z : Value} (ht : P.underlying t = some (.slice e)) (hi : P.info? e = some info) (hz : info.zero = some z) (hzs : z.cells.size = info.size)
    {x : Value} {m : Nat} {news : List Value} (src : Src P info.size tx x m news w) {a : Option Addr} {n cap : Nat} {xs : List Value} (hxs : xs.length = n * info.size)
    (hold : (Builtin.firstCells info.size n (.slice a n cap)).run P w.drew = .ok xs.toArray w.drew) (hcap : cap < n + m) (hroom : (n + m) * info.bytes ≤ 140737488355328) (h63 : n + m ≤ 140737488355328) (hB : B ≤ w.heap.size) :
    ∃ v' w', (Builtin.append_ #[t, tx] ty #[.slice a n cap, x]).run P w = .ok v' w' ∧ RowOK w' B e info.size v' (n + m) (xs ++ news) ∧ vblk v' = some w.heap.size ∧ w.heap.size < w'.heap.size ∧
      ∀ (o : Option Nat) (q : Nat), (∀ β, o = some β → β < w.heap.size) → Grew w w' o q := by
  have hrun := run_append_grow_src (P := P) w t tx ty e info z ht hi hz a n cap xs hold x m news src hcap (by omega) (growslice_fits hcap hroom)
  have hge := grownCap_ge w (n + m) cap e
  have hcm : grownCap w (n + m) cap e ≤ maxLen := grownCap_le_maxLen w (n + m) cap e (by simp only [maxLen]; omega)
  refine ⟨_, _, hrun, ⟨by rw [List.length_append, hxs, src.newsLen, Nat.add_mul], .inr ⟨w.heap.size, _, _, rfl, by omega, hB, heap_push_new w.drew _, hge, hcm, ?_, ?_⟩⟩, ?_, by simp, fun o q ho => ⟨rfl, rfl, rfl, by simp, fun β hβ _ => heap_push_old w.drew _ hβ, fun β i hβ hi => cell_same (heap_push_old w.drew _ (ho β hβ)) i⟩⟩
  · simp only [Array.size_append, List.size_toArray, size_zeroCells, hzs, List.length_append, hxs, src.newsLen, ← Nat.add_mul]
    congr 1
    omega
  · simp only [Array.toList_append]
    rw [List.take_append_of_le_length (by simp [hxs, src.newsLen, ← Nat.add_mul]), List.take_of_length_le (by simp [hxs, src.newsLen, ← Nat.add_mul])]
  · simp [vblk]; omega
theorem run_append_row {t tx ty e : TypeId} {info : TypeInfo} {z : Value} (ht : P.underlying t = some (.slice e)) (hi : P.info? e = some info) (hz : info.zero = some z) (hzs : z.cells.size = info.size)
    {x : Value} {m : Nat} {news : List Value} (src : Src P info.size tx x m news w) {v : Value} {n : Nat} {xs : List Value} (hrow : RowOK w B e info.size v n xs)
    (hroom : (n + m) * info.bytes ≤ 140737488355328) (h63 : n + m ≤ 140737488355328) (hB : B ≤ w.heap.size) :
    ∃ v' w', (Builtin.append_ #[t, tx] ty #[v, x]).run P w = .ok v' w' ∧ RowOK w' B e info.size v' (n + m) (xs ++ news) ∧ Grew w w' (vblk v) (n * info.size) ∧
      (∀ β, vblk v' = some β → vblk v = some β ∨ (w.heap.size ≤ β ∧ β < w'.heap.size)) := by
  obtain ⟨hlen, ⟨rfl, a, rfl⟩ | ⟨β, cap, cur, rfl, h0, hBβ, hh, hnc, hcm, hcs, htake⟩⟩ := hrow
  · have hx : xs = [] := List.eq_nil_of_length_eq_zero (by simpa using hlen)
    subst hx
    have hnone : vblk (.slice a 0 0) = none := by cases a <;> simp [vblk]
    by_cases hm : m = 0
    · subst hm
      have hn : news = [] := List.eq_nil_of_length_eq_zero (by simpa using src.newsLen)
      subst hn
      refine ⟨.slice a 0 0, w, ?_, ⟨by simp, .inl ⟨rfl, a, rfl⟩⟩, ⟨rfl, rfl, rfl, Nat.le_refl _, fun _ _ _ => rfl, fun _ _ _ _ => rfl⟩, fun β hβ => by rw [hnone] at hβ; cases hβ⟩
      rcases src.kind with ⟨e', hk⟩ | hk <;> cases a <;> simp [Builtin.append_, run_underlying ht, run_underlying hk, sizeOf, typeInfo, hi, src.len, src.cells, storeCells]
    · have hold : (Builtin.firstCells info.size 0 (.slice a 0 0)).run P w.drew = .ok ([] : List Value).toArray w.drew := by cases a <;> simp [Builtin.firstCells, Go.loadCells, loadCellsFrom]
      obtain ⟨v', w', hrun, hr, hv, hsz, hgr⟩ := run_append_new (P := P) (ty := ty) (B := B) ht hi hz hzs src (n := 0) (cap := 0) (xs := []) (by simp) hold (by omega) hroom h63 hB
      refine ⟨v', w', hrun, hr, ?_, fun β hβ => ?_⟩
      · rw [hnone]; exact hgr none _ (fun _ h => by cases h)
      · rw [hv] at hβ; cases hβ; exact .inr ⟨Nat.le_refl _, hsz⟩
  · have hvb : vblk (.slice (some ⟨β, 0, none⟩) n cap) = some β := by simp [vblk]; omega
    have hcells : ∀ j u, xs[j]? = some u → w.cell? ⟨β, j, none⟩ = some u := fun j u hj => by
      rw [← htake, List.getElem?_take] at hj
      split at hj
      · rw [cell_heap hh]; simpa using hj
      · cases hj
    by_cases hr : n + m ≤ cap
    · -- there is room
      have hnm : n * info.size + news.length = (n + m) * info.size := by rw [src.newsLen, Nat.add_mul]
      have hle : (n + m) * info.size ≤ cap * info.size := Nat.mul_le_mul_right _ hr
      have hst := run_storeCells_at (P := P) β (n * info.size) e news 0 cur w hh (by rw [hcs]; omega) src.one
      simp only [Nat.add_zero] at hst
      refine ⟨.slice (some ⟨β, 0, none⟩) (n + m) cap, w.setRow β (cur.toList.take (n * info.size) ++ news ++ cur.toList.drop (n * info.size + news.length)).toArray, ?_, ⟨by rw [List.length_append, hlen, src.newsLen, Nat.add_mul], .inr ⟨β, cap, _, rfl, h0, hBβ, setRow_heap w β cur _ e _ hh, hr, hcm, ?_, ?_⟩⟩,
        ⟨rfl, rfl, rfl, by simp, fun β' hβ' hne => setRow_other w β β' _ (fun e => hne (by rw [hvb, e])), fun β' i hβ' hi => ?_⟩, fun β' hβ' => .inl (by rw [hvb]; rw [← hβ']; simp [vblk]; omega)⟩
      · rcases src.kind with ⟨e', hk⟩ | hk <;> simp [Builtin.append_, run_underlying ht, run_underlying hk, sizeOf, typeInfo, hi, src.len, hr, src.cells, addr_add, hst]
      · simp; omega
      · have e1 : cur.toList.take (n * info.size) = xs := htake
        show ((cur.toList.take (n * info.size) ++ news ++ cur.toList.drop (n * info.size + news.length)).take ((n + m) * info.size)) = _
        rw [e1, List.take_append_of_le_length (by simp [hlen]; omega), List.take_of_length_le (by simp [hlen]; omega)]
      · rw [hvb] at hβ'; cases hβ'
        rw [cell_heap (setRow_heap w β cur _ e _ hh), cell_heap hh]
        simp only [List.getElem?_toArray]
        rw [List.append_assoc, List.getElem?_append_left (by simp; omega), List.getElem?_take, if_pos hi]
        simp
    · have hold : (Builtin.firstCells info.size n (.slice (some ⟨β, 0, none⟩) n cap)).run P w.drew = .ok xs.toArray w.drew :=
        run_firstCells_some w.drew info.size n ⟨β, 0, none⟩ n cap xs hlen (fun j u hj => by rw [addr_add, Nat.zero_add]; exact hcells j u hj)
      obtain ⟨v', w', hrun, hrow', hv, hsz, hgr⟩ := run_append_new (P := P) (ty := ty) (B := B) ht hi hz hzs src (n := n) (cap := cap) hlen hold (by omega) hroom h63 hB
      refine ⟨v', w', hrun, hrow', ?_, fun β' hβ' => ?_⟩
      · rw [hvb]; exact hgr (some β) _ (fun β' h => by cases h; exact heap_lt hh)
      · rw [hv] at hβ'; cases hβ'; exact .inr ⟨Nat.le_refl _, hsz⟩
theorem src_bytes {tx : TypeId} (hk : (∃ e', P.underlying tx = some (.slice e')) ∨ P.underlying tx = some .string) {x : Value} {l : List UInt8} {a : Option Addr} {len cap : Nat} (hx : x = .slice a len cap) (hl : l.length = len)
    (hc : len = 0 ∨ ∃ β off, a = some ⟨β, off, none⟩ ∧ ∀ i b, l[i]? = some b → w.cell? ⟨β, off + i, none⟩ = some (u8v b)) : Src P 1 tx x l.length (l.map u8v) w := by
  subst hx
  subst hl
  have hone : ∀ u ∈ l.map u8v, u.oneCell' = true := fun u hu => by obtain ⟨_, _, rfl⟩ := List.mem_map.1 hu; rfl
  cases a with
  | none =>
    have hnil : l = [] := by
      rcases hc with hc | ⟨β, off, ha, _⟩
      · exact List.eq_nil_of_length_eq_zero hc
      · cases ha
    subst hnil
    exact ⟨hk, fun _ => rfl, run_firstCells_none w 1 0 0 cap, run_firstCells_none w.drew 1 0 0 cap, by simp, hone⟩
  | some a =>
    have hnews : ∀ j u, (l.map u8v)[j]? = some u → w.cell? (a.add j) = some u := fun j u hj => by
      rw [List.getElem?_map] at hj
      cases hb : l[j]? with
      | none => simp [hb] at hj
      | some b =>
        simp [hb] at hj
        subst hj
        rcases hc with hc | ⟨β, off, ha, hcell⟩
        · have := (List.getElem?_eq_some_iff.1 hb).1; omega
        · cases ha; rw [addr_add]; exact hcell j b hb
    exact ⟨hk, fun _ => rfl, run_firstCells_some w 1 l.length a l.length cap _ (by simp) hnews, run_firstCells_some w.drew 1 l.length a l.length cap _ (by simp) (by simpa using hnews), by simp, hone⟩
theorem src_string {tx : TypeId} (hk : (∃ e', P.underlying tx = some (.slice e')) ∨ P.underlying tx = some .string) (s : ByteArray) : Src P 1 tx (.string s) s.data.toList.length (s.data.toList.map u8v) w := by
  have hl : s.data.toList.length = s.size := by simp
  refine ⟨hk, fun _ => ?_, ?_, ?_, by simp, fun u hu => by obtain ⟨_, _, rfl⟩ := List.mem_map.1 hu; rfl⟩
  · rw [hl]; rfl
  · rw [hl]; exact firstCells_string s w
  · rw [hl]; exact firstCells_string s w.drew
theorem elsOf_inv {α : Type} {st : Nat → Blk} (h : SInv B M w0 p0 w p g st) {sz : Nat} {x : Value} {v : AV} (hx : RepV w p g (used st) x v) {k : List AV → FP → Option α} {r : α} (hk : elsOf sz st v k = some r) :
    ∃ l fp a len cap vs, k l fp = some r ∧ x = .slice a len cap ∧ l.length = len ∧ (∀ y ∈ l, y.cells.length = sz) ∧ Cells (RepI w p) vs (l.flatMap AV.cells) ∧ (len = 0 ∨ ∃ β off, a = some ⟨β, off, none⟩ ∧ ∀ i b, vs[i]? = some b → w.cell? ⟨β, off + i, none⟩ = some b) := by
  unfold elsOf at hk
  split at hk
  · rename_i z l
    obtain ⟨hz, hk2⟩ := bif_inv hk
    have hz' := Nat.eq_of_beq_eq_true hz
    subst hz'
    have hr := hx.sl
    cases hr with
    | sl β off vs hl hcap hsz ha hcell hr =>
      refine ⟨l, _, _, _, _, (List.range (l.flatMap AV.cells).length).map vs, hk2, rfl, hl, hsz, ⟨by simp, fun i v c hv hc => ?_⟩, ?_⟩
      · have hi : i < (l.flatMap AV.cells).length := (List.getElem?_eq_some_iff.1 hc).1
        simp only [List.getElem?_map, List.getElem?_range hi, Option.map_some, Option.some.injEq] at hv
        subst hv
        exact hr i c hc
      · rcases ha with ha | rfl
        · exact .inl ha
        · refine .inr ⟨β, off, rfl, fun i b hi => ?_⟩
          have hi' : i < (l.flatMap AV.cells).length := by have := (List.getElem?_eq_some_iff.1 hi).1; simpa using this
          simp only [List.getElem?_map, List.getElem?_range hi', Option.map_some, Option.some.injEq] at hi
          subst hi
          exact (hcell i _ (List.getElem?_eq_getElem hi')).2
  · obtain ⟨a, rfl⟩ := hx.nils
    exact ⟨[], _, a, 0, 0, [], hk, rfl, rfl, (fun _ h => by cases h), .nil, .inl rfl⟩
  · rename_i rr
    obtain ⟨hur, rfl, a, l0, c0, hgs⟩ := hx.row
    have hb := h.blk rr
    split at hk
    · rename_i e z l pub hst
      rw [hst] at hb
      obtain ⟨hz, hk2⟩ := bif_inv hk
      have hz' := Nat.eq_of_beq_eq_true hz
      subst hz'
      obtain ⟨hz0, hsz, vs, ⟨hlen, ⟨hn, a', hv⟩ | ⟨β', cap, cur, hv, h0, hB, hh, hnc, hcm, hcs, htake⟩⟩, hcells, hp⟩ := hb
      · exact ⟨l, _, a', 0, 0, vs, hk2, hv, hn, hsz, hcells, .inl rfl⟩
      · refine ⟨l, _, _, _, _, vs, hk2, hv, rfl, hsz, hcells, .inr ⟨β', 0, rfl, fun i b hi => ?_⟩⟩
        rw [← htake, List.getElem?_take] at hi
        split at hi
        · rw [cell_heap hh]; simpa using hi
        · cases hi
    · cases hk
  · cases hk
theorem src_els {tx : TypeId} {sz : Nat} (hk : (∃ e', P.underlying tx = some (.slice e')) ∨ P.underlying tx = some .string) {x : Value} {n : Nat} {vs : List Value} {a : Option Addr} {len cap : Nat} (hx : x = .slice a len cap) (hl : n = len) (hvl : vs.length = n * sz)
    (hone : ∀ u ∈ vs, u.oneCell' = true) (hc : len = 0 ∨ ∃ β off, a = some ⟨β, off, none⟩ ∧ ∀ i b, vs[i]? = some b → w.cell? ⟨β, off + i, none⟩ = some b) : Src P sz tx x n vs w := by
  subst hx
  subst hl
  cases a with
  | none =>
    have hn0 : n = 0 := by
      rcases hc with hc | ⟨β, off, ha, _⟩
      · exact hc
      · cases ha
    subst hn0
    have hnil : vs = [] := List.eq_nil_of_length_eq_zero (by simpa using hvl)
    subst hnil
    exact ⟨hk, fun _ => rfl, run_firstCells_none w sz 0 0 cap, run_firstCells_none w.drew sz 0 0 cap, by simp, hone⟩
  | some a =>
    have hnews : ∀ j u, vs[j]? = some u → w.cell? (a.add j) = some u := fun j u hj => by
      rcases hc with hc | ⟨β, off, ha, hcell⟩
      · have := (List.getElem?_eq_some_iff.1 hj).1
        rw [hvl, hc] at this
        omega
      · cases ha; rw [addr_add]; exact hcell j u hj
    exact ⟨hk, fun _ => rfl, run_firstCells_some w sz n a n cap _ hvl hnews, run_firstCells_some w.drew sz n a n cap _ hvl (by simpa using hnews), hvl, hone⟩
theorem SInv.moveRow {st : Nat → Blk} (h : SInv B M w0 p0 w p g st) {t : Nat} {r : Option Nat} {b : Blk} {v' : Value} {w' : World} {o : Option Nat} {n : Nat} (ht : st t = .free) (hb : b.live)
    (hr : ∀ k, r = some k → (st k).live ∧ vblk (g k) = o) (hr0 : r = none → o = none) (hgr : Grew w w' o n) (hpn : ∀ β, o = some β → p β ≤ n) (hoB : ∀ β, o = some β → B ≤ β)
    (hv : ∀ β, vblk v' = some β → o = some β ∨ (w.heap.size ≤ β ∧ β < w'.heap.size))
    (st' : Nat → Blk) (hst' : st' = upd (match r with | some k => upd st k .dead | none => st) t b)
    (hB : Mono w p g (used st) w' p (upd g t v') (used st') → BlkOK w' p (upd g t v') (used st') B M t b) :
    SInv B M w0 p0 w' p (upd g t v') st' ∧ Mono w p g (used st) w' p (upd g t v') (used st') := by
  have hbf : b ≠ .free := fun e => by rw [e] at hb; exact hb
  have hrt : ∀ k, r = some k → k ≠ t := fun k hk e => by subst e; have := (hr k hk).1; rw [ht] at this; exact this
  have hs1 : ∀ k, k ≠ t → r ≠ some k → st' k = st k := fun k hk hkr => by
    rw [hst', upd_ne _ _ hk]
    cases r with
    | none => rfl
    | some k' => exact upd_ne _ _ (fun e => hkr (by rw [e]))
  have hst : st' t = b := by rw [hst', upd_same]
  have hsr : ∀ k, r = some k → st' k = .dead := fun k hk => by
    subst hk
    rw [hst', upd_ne _ _ (hrt k rfl)]
    exact upd_same _ _ _
  have hu : ∀ k, used st k → used st' k := fun k hk => by
    unfold used at *
    by_cases e : k = t
    · subst e; rw [hst]; exact hbf
    · by_cases e' : r = some k
      · rw [hsr k e']; simp
      · rw [hs1 k e e']; exact hk
  have hg : ∀ k, used st k → upd g t v' k = g k := fun k hk => upd_ne _ _ (fun e => by subst e; exact hk ht)
  have hcell : ∀ β i, i < p β → w'.cell? ⟨β, i, none⟩ = w.cell? ⟨β, i, none⟩ := fun β i hi => by
    rcases Nat.lt_or_ge β w.heap.size with hlt | hge
    · by_cases e : o = some β
      · exact hgr.front β i e (Nat.lt_of_lt_of_le hi (hpn β e))
      · exact cell_same (hgr.block β hlt e) i
    · rw [h.newp β hge] at hi; omega
  refine h.change hgr.os hgr.tape hgr.output hgr.size (fun k => k = t ∨ r = some k) (fun β => o = some β) (fun k hk => hs1 k (fun e => hk (.inl e)) (fun e => hk (.inr e))) hu hg (fun β hβ hd => ⟨hgr.block β hβ hd, rfl⟩) (fun β hd hlt => by have := hoB β hd; omega)
    (fun _ => Nat.le_refl _) hcell (fun β hβ => h.newp β (Nat.le_trans hgr.size hβ)) ?_ ?_ ?_
  · intro k β hk hl hvk hd
    have hkr : ∃ k', r = some k' := by
      cases hrr : r with
      | none => rw [hr0 hrr] at hd; cases hd
      | some k' => exact ⟨k', rfl⟩
    obtain ⟨k', hk'⟩ := hkr
    obtain ⟨hl', hv'⟩ := hr k' hk'
    exact h.dist k k' β (fun e => hk (.inr (by rw [e]; exact hk'))) hl hl' hvk (hv'.trans hd)
  · rintro k (rfl | hk)
    · rw [hst]; exact hB ⟨fun _ => Nat.le_refl _, hcell, hg, hu⟩
    · rw [hsr k hk]; trivial
  · rintro k k' β (rfl | hk) hne hl hl' hva hvb
    · rw [upd_same] at hva
      by_cases e : r = some k'
      · rw [hsr k' e] at hl'; exact hl'
      · rw [hs1 k' hne e] at hl'
        rw [upd_ne _ _ hne] at hvb
        rcases hv β hva with ho | ⟨h1, h2⟩
        · have hkr : ∃ k2, r = some k2 := by
            cases hrr : r with
            | none => rw [hr0 hrr] at ho; cases ho
            | some k2 => exact ⟨k2, rfl⟩
          obtain ⟨k2, hk2⟩ := hkr
          obtain ⟨hl2, hv2⟩ := hr k2 hk2
          exact h.dist k2 k' β (fun e2 => e (by rw [← e2]; exact hk2)) hl2 hl' (hv2.trans ho) hvb
        · have := (h.blk k').vblk_lt hl' hvb
          omega
    · rw [hsr k hk] at hl; exact hl
theorem sim_append {α : Type} {E : Env} (hty : ∀ t i, E.ty t = some i → mkTI P t = some i) {fr : Fr} {t ty tx rt : Nat} {i : TI} (hi : mkTI P ty = some i) (h : SInv B M w0 p0 w p g fr.st) (hk' : (∃ e', P.underlying tx = some (.slice e')) ∨ P.underlying tx = some .string)
    {x y : Value} {s v : AV} (hx : RepV w p g (used fr.st) x s) (hy : RepV w p g (used fr.st) y v) {k : Ret α} {r : α} (hk : doAppend E fr t i s v k = some r) :
    ∃ v' st' fp, k v' st' fp = some r ∧ Good B M w0 p0 w p g fr.st v' st' ((Builtin.append_ #[ty, tx] rt #[x, y]).run P w) := by
  obtain ⟨info, z, a1, a2, a3, a4, a5, a6, a7, a8, a9, _⟩ := mkTI_info hi
  unfold doAppend at hk
  split at hk
  · rename_i ht
    split at hk
    · -- bytes
      rename_i e hkd
      rw [hkd] at a8
      obtain ⟨hu, hb8⟩ := kind_slice a8
      obtain ⟨hue, ei, he1, he2, he3, he4⟩ := isU8_iff hb8.symm
      have fin : ∀ (new : List UInt8), Src P 1 tx y new.length (new.map u8v) w → ∀ (r0 : Option Nat) (l : List UInt8) (pub : Bool) (st' : Nat → Blk), st' = upd (match r0 with | some k => upd fr.st k .dead | none => fr.st) t (.rowB e (l ++ new) pub) →
          RowOK w B e 1 x l.length (l.map u8v) → (∀ k, r0 = some k → (fr.st k).live ∧ vblk (g k) = vblk x) → (r0 = none → vblk x = none) → (∀ β, vblk x = some β → p β ≤ l.length ∧ (pub = false → p β = 0)) → room (l.length + new.length) 1 = true →
          Good B M w0 p0 w p g fr.st (.row t) st' ((Builtin.append_ #[ty, tx] rt #[x, y]).run P w) := by
        intro new src r0 l pub st' hst' hrow hr0 hr1 hpp hroom
        rw [← he2] at src
        simp only [room, Bool.and_eq_true] at hroom
        have hm1 := Nat.le_of_ble_eq_true hroom.1
        have hm2 := Nat.le_of_ble_eq_true hroom.2
        obtain ⟨v', w', hrun, hrow', hgr, hv'⟩ := run_append_row (P := P) (ty := rt) (B := B) hu he1 he4 (by rw [he2]; rfl) src (v := x) (n := l.length) (xs := l.map u8v) (by rw [he2]; exact hrow) (by rw [he3]; exact hm1) hm2 h.size
        rw [he2] at hrow' hgr
        simp only [Nat.mul_one] at hgr
        have hoB : ∀ β, vblk x = some β → B ≤ β := fun β hv => by
          obtain ⟨_, ⟨_, a, hg⟩ | ⟨β', cap, cur, hg, h0, hB, _⟩⟩ := hrow
          · rw [hg] at hv; cases a <;> simp [vblk] at hv
          · rw [hg] at hv; have : β' = β := by simp [vblk] at hv; exact hv.2
            omega
        obtain ⟨hs, hm⟩ := h.moveRow (t := t) (r := r0) (b := .rowB e (l ++ new) pub) (v' := v') (w' := w') (o := vblk x) (n := l.length) ht trivial hr0 hr1 hgr (fun β hv => (hpp β hv).1) hoB hv' st' hst'
          (fun hm => ⟨by rw [upd_same]; simpa using hrow', fun β hv => by
            rw [upd_same] at hv
            rcases hv' β hv with ho | ⟨h1, h2⟩
            · exact ⟨by have := (hpp β ho).1; simp; omega, (hpp β ho).2⟩
            · rw [h.newp β h1]; exact ⟨Nat.zero_le _, fun _ => rfl⟩⟩)
        have hus : used st' t := by unfold used; rw [hst', upd_same]; simp
        have hgt : upd g t v' t = v' := upd_same _ _ _
        have hsl : ∃ a l c, upd g t v' t = .slice a l c := by
          rw [hgt]
          obtain ⟨_, ⟨_, a, hg⟩ | ⟨β', cap, cur, hg, _⟩⟩ := hrow'
          · exact ⟨_, _, _, hg⟩
          · exact ⟨_, _, _, hg⟩
        have hrc := RepC.row (w := w') (p := p) (g := upd g t v') (u := used st') hus hsl
        rw [hgt] at hrc
        exact ⟨v', w', p, _, hrun, hs, hm, RepC.v hrc⟩
      have app : ∀ (new : List UInt8) (fp : FP), Src P 1 tx y new.length (new.map u8v) w → appB fr t e s new fp k = some r → ∃ v' st' fp, k v' st' fp = some r ∧ Good B M w0 p0 w p g fr.st v' st' ((Builtin.append_ #[ty, tx] rt #[x, y]).run P w) := by
        intro new fp src hk2
        unfold appB at hk2
        split at hk2
        · obtain ⟨hroom, hk3⟩ := chk_inv hk2
          obtain ⟨a, rfl⟩ := hx.nils
          have hnone : vblk (.slice a 0 0) = none := by cases a <;> simp [vblk]
          exact ⟨_, _, _, hk3, fin new src none [] false _ rfl ⟨by simp, .inl ⟨rfl, a, rfl⟩⟩ (fun _ h => by cases h) (fun _ => hnone) (fun β hv => by rw [hnone] at hv; cases hv) (by simpa using hroom)⟩
        · rename_i rr
          obtain ⟨hur, rfl, hgs⟩ := hx.row
          have hbk := h.blk rr
          split at hk2
          · rename_i e' l pub hst
            rw [hst] at hbk
            obtain ⟨hc, hk3⟩ := chk_inv hk2
            simp only [Bool.and_eq_true] at hc
            have hee := Nat.eq_of_beq_eq_true hc.1
            subst hee
            exact ⟨_, _, _, hk3, fin new src (some rr) l pub _ rfl hbk.1 (fun k hk => by cases hk; exact ⟨by rw [hst]; trivial, rfl⟩) (fun h => by cases h) hbk.2 hc.2⟩
          · cases hk2
        · cases hk2
      split at hk
      · obtain ⟨str, rfl, rfl⟩ := hy.str
        exact app _ _ (src_string hk' str) hk
      · rename_i rr m
        obtain ⟨hur, β, ln, cap, a, hg, hm, ha, rfl⟩ := hy.suf
        unfold appS at hk
        split at hk
        · rename_i r' n
          obtain ⟨hur', β', ln', cap', hg', hn, rfl⟩ := hx.pre
          have hbk := h.blk rr
          split at hk
          · rename_i e' l pub hst
            rw [hst] at hbk
            obtain ⟨hc, hk3⟩ := chk_inv hk
            simp only [Bool.and_eq_true, Bool.not_eq_true'] at hc
            obtain ⟨⟨⟨⟨hpos, hrr⟩, hee⟩, hpub⟩, hroom⟩ := hc
            have hrr' := Nat.eq_of_beq_eq_true hrr
            have hee' := Nat.eq_of_beq_eq_true hee
            subst hrr'
            subst hee'
            subst hpub
            rw [hg] at hg'
            cases hg'
            obtain ⟨⟨hlen, hrow⟩, hpp⟩ := hbk
            rw [hg] at hrow hpp
            rcases hrow with ⟨hn0, a0, hbad⟩ | ⟨β2, cap2, cur, hv, h0, hB, hh, hnc, hcm, hcs, htake⟩
            · have := Nat.le_of_ble_eq_true hpos
              omega
            cases hv
            have hcell : ∀ i b, l[i]? = some b → w.cell? ⟨β, i, none⟩ = some (u8v b) := fun i b hi => by
              rw [cell_heap hh]
              have : (cur.toList.take (l.length * 1))[i]? = some (u8v b) := by rw [htake]; simp [hi]
              rw [List.getElem?_take] at this
              split at this
              · simpa using this
              · cases this
            have src : Src P 1 tx (.slice a (l.length - m) (cap - m)) (l.drop m).length ((l.drop m).map u8v) w := by
              refine src_bytes hk' rfl (by simp) ?_
              rcases ha with ha | rfl
              · exact .inl (by omega)
              · refine .inr ⟨β, m, rfl, fun i b hi => ?_⟩
                rw [List.getElem?_drop] at hi
                exact hcell _ _ hi
            have hln : (l.take n).length = n := by simp; omega
            refine ⟨_, _, _, hk3, fin (l.drop m) src (some rr) (l.take n) false _ rfl ⟨by simp, .inr ⟨β, cap, cur, by rw [hln], h0, hB, hh, by omega, hcm, hcs, ?_⟩⟩ (fun k hk => by cases hk; exact ⟨by rw [hst]; trivial, by rw [hg]; simp [vblk]⟩) (fun h => by cases h) (fun β3 hv3 => ?_) (by rw [hln, List.length_drop]; exact hroom)⟩
            · rw [hln]
              have e1 : (cur.toList.take (l.length * 1)).take (n * 1) = (l.map u8v).take (n * 1) := by rw [htake]
              rw [List.take_take, Nat.min_eq_left (by omega)] at e1
              rw [e1]; simp
            · have hv4 : vblk (.slice (some ⟨β, 0, none⟩) l.length cap) = some β3 := by rw [← hv3]; simp [vblk]
              have := (hpp β3 hv4).2 rfl
              rw [this]; exact ⟨Nat.zero_le _, fun _ => rfl⟩
          · cases hk
        · cases hk
      · obtain ⟨l, fp, a, len, cap, hk2, he, hl, hcap, hc⟩ := bytesOf_inv h hy hk
        exact app _ _ (src_bytes hk' he hl hc) hk2
    · -- other elements
      rename_i e hkd
      rw [hkd] at a8
      obtain ⟨hu, hb8⟩ := kind_slice a8
      split at hk
      · cases hk
      · rename_i ei hei
        obtain ⟨info', z', b1, b2, b3, b4, b5, b6, b7, b8, b9, _⟩ := mkTI_info (hty _ _ hei)
        obtain ⟨new, fp, a, len, cap, vs, hk2, he, hl, hsz, hcells, hc⟩ := elsOf_inv h hy hk
        have hvl : vs.length = new.length * info'.size := by rw [hcells.len, flat_length hsz, b2]
        have src := src_els (P := P) (w := w) (sz := info'.size) hk' he (n := new.length) hl hvl hcells.oneI hc
        have hzs : z'.cells.size = info'.size := by
          have := (ofCells_rep (w := w) (p := p) b5).len
          simp at this
          omega
        have fin : ∀ (r0 : Option Nat) (l : List AV) (us : List Value) (pub : Bool) (st' : Nat → Blk), st' = upd (match r0 with | some k => upd fr.st k .dead | none => fr.st) t (.rowL e ei.size (l ++ new) pub) → 0 < ei.size → (∀ y ∈ l, y.cells.length = ei.size) → Cells (RepI w p) us (l.flatMap AV.cells) →
            RowOK w B e ei.size x l.length us → (∀ k, r0 = some k → (fr.st k).live ∧ vblk (g k) = vblk x) → (r0 = none → vblk x = none) → (∀ β, vblk x = some β → p β ≤ l.length * ei.size ∧ (pub = false → p β = 0)) → room (l.length + new.length) ei.bytes = true →
            Good B M w0 p0 w p g fr.st (.row t) st' ((Builtin.append_ #[ty, tx] rt #[x, y]).run P w) := by
          intro r0 l us pub st' hst' hpos hlsz hlc hrow hr0 hr1 hpp hroom
          simp only [room, Bool.and_eq_true] at hroom
          have hm1 := Nat.le_of_ble_eq_true hroom.1
          have hm2 := Nat.le_of_ble_eq_true hroom.2
          obtain ⟨v', w', hrun, hrow', hgr, hv'⟩ := run_append_row (P := P) (ty := rt) (B := B) hu b1 b4 hzs src (v := x) (n := l.length) (xs := us) (by rw [b2]; exact hrow) (by rw [b3]; exact hm1) hm2 h.size
          rw [b2] at hrow' hgr
          have hoB : ∀ β, vblk x = some β → B ≤ β := fun β hv => by
            obtain ⟨_, ⟨_, a, hg⟩ | ⟨β', cap, cur, hg, h0, hB, _⟩⟩ := hrow
            · rw [hg] at hv; cases a <;> simp [vblk] at hv
            · rw [hg] at hv; have : β' = β := by simp [vblk] at hv; exact hv.2
              omega
          obtain ⟨hs, hm⟩ := h.moveRow (t := t) (r := r0) (b := .rowL e ei.size (l ++ new) pub) (v' := v') (w' := w') (o := vblk x) (n := l.length * ei.size) ht trivial hr0 hr1 hgr (fun β hv => (hpp β hv).1) hoB hv' st' hst'
            (fun hm => ⟨hpos, fun y hy => by
              rcases List.mem_append.1 hy with hy | hy
              · exact hlsz y hy
              · exact hsz y hy, us ++ vs, by rw [upd_same]; simpa using hrow', by rw [List.flatMap_append]; exact (hlc.append hcells).imp fun _ _ => hm.repI, fun β hv => by
              rw [upd_same] at hv
              rcases hv' β hv with ho | ⟨h1, h2⟩
              · exact ⟨by have := (hpp β ho).1; rw [List.length_append, Nat.add_mul]; omega, (hpp β ho).2⟩
              · rw [h.newp β h1]; exact ⟨Nat.zero_le _, fun _ => rfl⟩⟩)
          have hus : used st' t := by unfold used; rw [hst', upd_same]; simp
          have hgt : upd g t v' t = v' := upd_same _ _ _
          have hsl : ∃ a l c, upd g t v' t = .slice a l c := by
            rw [hgt]
            obtain ⟨_, ⟨_, a, hg⟩ | ⟨β', cap, cur, hg, _⟩⟩ := hrow'
            · exact ⟨_, _, _, hg⟩
            · exact ⟨_, _, _, hg⟩
          have hrc := RepC.row (w := w') (p := p) (g := upd g t v') (u := used st') hus hsl
          rw [hgt] at hrc
          exact ⟨v', w', p, _, hrun, hs, hm, RepC.v hrc⟩
        unfold appL at hk2
        split at hk2
        · obtain ⟨hroom, hk3⟩ := chk_inv hk2
          simp only [Bool.and_eq_true] at hroom
          obtain ⟨a, rfl⟩ := hx.nils
          have hnone : vblk (.slice a 0 0) = none := by cases a <;> simp [vblk]
          exact ⟨_, _, _, hk3, fin none [] [] false _ rfl (Nat.le_of_ble_eq_true hroom.1) (fun _ h => by cases h) .nil ⟨by simp, .inl ⟨rfl, a, rfl⟩⟩ (fun _ h => by cases h) (fun _ => hnone) (fun β hv => by rw [hnone] at hv; cases hv) (by simpa using hroom.2)⟩
        · rename_i rr
          obtain ⟨hur, rfl, hgs⟩ := hx.row
          have hbk := h.blk rr
          split at hk2
          · rename_i e' zz l pub hst
            rw [hst] at hbk
            obtain ⟨hc2, hk3⟩ := chk_inv hk2
            simp only [Bool.and_eq_true] at hc2
            have hee := Nat.eq_of_beq_eq_true hc2.1.1
            have hzz := Nat.eq_of_beq_eq_true hc2.1.2
            subst hee
            subst hzz
            obtain ⟨hz0, hlsz, us, hrow, hlc, hpp⟩ := hbk
            exact ⟨_, _, _, hk3, fin (some rr) l us pub _ rfl hz0 hlsz hlc hrow (fun k hk => by cases hk; exact ⟨by rw [hst]; trivial, rfl⟩) (fun h => by cases h) hpp hc2.2⟩
          · cases hk2
        · cases hk2
    · cases hk
  · cases hk
end
end Go.Abs
